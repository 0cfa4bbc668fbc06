/- Part 10 of the proof: the evaluator, contracts of functions and their plain laws (joined by program). No condition. -/
import Derived.Test.YtigiblhmhmgagaaGreatPart9
/- incb.row of any halves, in the evaluator. -/
namespace Go.Proofs.YtigiblhmhmgagaaGreat
set_option linter.unusedSimpArgs false
set_option linter.unusedVariables false
set_option maxRecDepth 8000
open Go.Ev
set_option linter.unusedVariables false
section
variable {x : Rat} {a b w F1 F2 : Nat}
theorem half_units (h0 : 0 ≤ x) (h1 : x + x ≤ 1) : 2 * unN x w ≤ 2 ^ w := by
  have h2 : 2 * x.num.natAbs ≤ x.den := by
    have := num_den x
    have d0 : (0 : Rat) < (x.den : Rat) := by exact_mod_cast x.den_pos
    have h3 := Rat.mul_le_mul_of_nonneg_right h1 (show (0 : Rat) ≤ (x.den : Rat) by grind)
    have h4 : (x.num : Rat) + (x.num : Rat) ≤ (x.den : Rat) := by grind
    have h5 : ((x.num + x.num : Int) : Rat) ≤ (((x.den : Nat) : Int) : Rat) := by rw [Rat.intCast_add]; exact h4
    have h6 := Rat.intCast_le_intCast.1 h5
    have h7 := Rat.num_nonneg.2 h0
    omega
  have h3 := Nat.div_mul_le_self (x.num.natAbs * 2 ^ w) x.den
  have h4 := Nat.mul_le_mul_right (2 ^ w) h2
  have h5 : 2 * unN x w * x.den ≤ 2 ^ w * x.den := by
    have e1 : 2 * unN x w * x.den = 2 * (x.num.natAbs * 2 ^ w / x.den * x.den) := by rw [Nat.mul_assoc]
    have e2 : 2 * x.num.natAbs * 2 ^ w = 2 * (x.num.natAbs * 2 ^ w) := by rw [Nat.mul_assoc]
    rw [Nat.mul_comm (2 ^ w)]
    omega
  exact Nat.le_of_mul_le_mul_right h5 x.den_pos
theorem fst_ok (h1 : F1 ≤ F2) (h2 : F2 ≤ F1 + 2 ^ 45) (h3 : F2 ≤ 2 ^ (w + 25)) : okK w b (2 ^ (w + 25)) (2 ^ 69) 0 F1 F2 F1 F2 := by
  unfold okK
  rw [Nat.zero_min, Nat.pow_zero, Nat.one_mul, Nat.one_mul]
  refine ⟨?_, ?_, ?_, ?_, ?_, ?_⟩ <;> omega
theorem rowC_le (hb2 : b ≤ 20) : 4 ^ b * 2 ^ (w + 25) ≤ 2 ^ 65 * 2 ^ w ∧ 4 ^ b * 2 ^ 69 ≤ 2 ^ 109 := by
  have h40 : 4 ^ b ≤ 4 ^ 20 := Nat.pow_le_pow_right (by omega) hb2
  have hp : 2 ^ (w + 25) = 2 ^ 25 * 2 ^ w := by rw [Nat.pow_add, Nat.mul_comm]
  constructor
  · rw [hp, ← Nat.mul_assoc]
    exact Nat.mul_le_mul_right _ (Nat.le_trans (Nat.mul_le_mul_right _ h40) (by decide))
  · exact Nat.le_trans (Nat.mul_le_mul_right _ h40) (by decide)
/-- The row ends. -/
theorem rowh_ends (ha : 1 ≤ a) (hb2 : b ≤ 20) (h0 : 0 ≤ x) (h1 : x + x ≤ 1) (hw0 : 60 ≤ w) (hw : w ≤ 400) (g1 : F1 ≤ F2) (g2 : F2 ≤ F1 + 2 ^ 45) (g3 : F2 ≤ 2 ^ (w + 25)) : ∃ A B K, rowGo w (unN x w) (unN x w + 1) a b 2201 0 F1 F2 F1 F2 = some (A, B, K) := by
  have hP : 2 ^ 60 ≤ 2 ^ w := Nat.pow_le_pow_right (n := 2) (by omega) hw0
  have hy := half_units (w := w) h0 h1
  have ok := fst_ok (b := b) g1 g2 g3
  unfold okK at ok
  rw [Nat.zero_min, Nat.pow_zero, Nat.one_mul, Nat.one_mul] at ok
  have hC := (rowC_le (w := w) hb2).1
  have hp : 2 ^ (w + 25) = 2 ^ w * 33554432 := by rw [Nat.pow_add]
  have hF : 4 ^ 2000 * (4 ^ b * 2 ^ (w + 25)) < 8 * 5 ^ 2000 := by
    obtain ⟨E, hE⟩ : ∃ E : Nat, E = 465 := ⟨_, rfl⟩
    have h49 : 2 ^ 65 * 2 ^ w ≤ 2 ^ E := by rw [← Nat.pow_add]; exact Nat.pow_le_pow_right (by omega) (by omega)
    obtain ⟨N4, hN4⟩ : ∃ N, N = 4 ^ 2000 := ⟨_, rfl⟩
    obtain ⟨N5, hN5⟩ : ∃ N, N = 5 ^ 2000 := ⟨_, rfl⟩
    rw [← hN4, ← hN5]
    have hk : N4 * 2 ^ E < 8 * N5 := by rw [hN4, hN5, hE]; decide +kernel
    exact Nat.lt_of_le_of_lt (Nat.mul_le_mul_left _ (Nat.le_trans hC h49)) hk
  exact row_early (a := a) (b := b) (F := 2000) (C := 2 ^ 65) (by omega) rfl hy ha hb2 b 0 _ _ _ _ _ _ (by omega) (by omega) hC (by decide) hF ok
theorem rowh_bd {A B K : Nat} (ha : 1 ≤ a) (hb2 : b ≤ 20) (h0 : 0 ≤ x) (h1 : x + x ≤ 1) (hw0 : 60 ≤ w) (g1 : F1 ≤ F2) (g2 : F2 ≤ F1 + 2 ^ 45) (g3 : F2 ≤ 2 ^ (w + 25))
    (hg : rowGo w (unN x w) (unN x w + 1) a b 2201 0 F1 F2 F1 F2 = some (A, B, K)) : A ≤ B ∧ B ≤ A + 2 ^ 121 ∧ B ≤ 2 ^ (w + 77) := by
  have hP : 2 ^ 60 ≤ 2 ^ w := Nat.pow_le_pow_right (n := 2) (by omega) hw0
  have hp : 2 ^ (w + 25) = 2 ^ w * 33554432 := by rw [Nat.pow_add]
  obtain ⟨hC, hD⟩ := rowC_le (w := w) hb2
  obtain ⟨i1, i2, i3, i4⟩ := row_inv (a := a) (b := b) (C := 2 ^ 65) (by omega) rfl (half_units (w := w) h0 h1) ha hb2 (by omega) hC (by decide) 2201 0 _ _ _ _ hg (fst_ok g1 g2 g3)
  have b1 : (K + 1) * (4 ^ b * 2 ^ 69) ≤ 2201 * 2 ^ 109 := Nat.mul_le_mul (by omega) hD
  have b2 : (K + 1) * (4 ^ b * 2 ^ (w + 25)) ≤ 2201 * (2 ^ 65 * 2 ^ w) := Nat.mul_le_mul (by omega) hC
  have b3 : 2 ^ (w + 77) = 4096 * (2 ^ 65 * 2 ^ w) := by rw [show w + 77 = 12 + (65 + w) by omega, Nat.pow_add 2 12, Nat.pow_add 2 65]
  have b4 : 64 ≤ 2 ^ 65 * 2 ^ w := Nat.le_trans (by decide) (Nat.le_mul_of_pos_right (2 ^ 65) (by omega))
  omega
set_option maxHeartbeats 1000000 in
theorem incb_rowh {L A' B' K : Nat} (ha : 1 ≤ a) (ha2 : a ≤ 20) (hb : 1 ≤ b) (hb2 : b ≤ 20) (hz : szR x L) (hL : L ≤ 300) (h0 : 0 ≤ x) (h1 : x + x ≤ 1) (hw0 : 60 ≤ w) (hw : w ≤ 400)
    (fi : Go.Ev.Fn CX 56 [.int .i64 (a : Int), .int .i64 (b : Int), rv x, .int .i64 (w : Int)] (spanV F1 F2)) (g1 : F1 ≤ F2) (g2 : F2 ≤ F1 + 2 ^ 45) (g3 : F2 ≤ 2 ^ (w + 25))
    (hg : rowGo w (unN x w) (unN x w + 1) a b 2201 0 F1 F2 F1 F2 = some (A', B', K)) :
    Go.Ev.Fn CX 28 [.int .i64 (a : Int), .int .i64 (b : Int), rv x, .int .i64 (w : Int)] (spanV A' B') := by
  have hP : 2 ^ 60 ≤ 2 ^ w := Nat.pow_le_pow_right (n := 2) (by omega) hw0
  have hp25 : 2 ^ (w + 25) = 2 ^ w * 33554432 := by rw [Nat.pow_add]
  have hy := half_units (w := w) h0 h1
  have r : Go.Ev.Fn CX 55 [rv x, .int .i64 (w : Int)] (spanV (unN x w) (unN x w + 1)) := fix_Rat hz (by omega) (w := w) (by omega)
  obtain ⟨ly1, ly2⟩ := unN_len1 h0 (show x ≤ 1 by clear r hy; grind) (show w ≤ 900 by omega)
  have ok := fst_ok (b := b) g1 g2 g3
  have hC := (rowC_le (w := w) hb2).1
  have e65 : 2 ^ (w + 65) = 2 ^ 65 * 2 ^ w := by rw [Nat.pow_add, Nat.mul_comm]
  have step := fun (k t1 t2 a1 a2 : Nat) (h : okK w b (2 ^ (w + 25)) (2 ^ 69) k t1 t2 a1 a2) => okK_step (a := a) (y1 := unN x w) (y2 := unN x w + 1) (C := 2 ^ 65) (by omega) rfl hy ha hb2 (by omega) hC (by decide) h
  have lens := fun (k t1 t2 a1 a2 : Nat) (hk : k ≤ 2201) (h : okK w b (2 ^ (w + 25)) (2 ^ 69) k t1 t2 a1 a2) => (show (lim t1).length ≤ 40 ∧ (lim t2).length ≤ 40 ∧ (lim a1).length ≤ 40 ∧ (lim a2).length ≤ 40 from by
    obtain ⟨q1, q2, q3, q4, q5, q6⟩ := h
    have f := (four_le (k := k) (b := b) (T := 2 ^ (w + 25))).2
    have b1 : (k + 1) * (4 ^ min k b * 2 ^ (w + 25)) ≤ 4096 * 2 ^ (w + 65) := Nat.mul_le_mul (by omega) (Nat.le_trans f (by rw [e65]; exact hC))
    have b2 : 4096 * 2 ^ (w + 65) = 2 ^ (w + 77) := by rw [show w + 77 = 12 + (w + 65) by omega, Nat.pow_add 2 12]
    have b3 : 2 ^ (w + 65) ≤ 2 ^ (w + 77) := Nat.pow_le_pow_right (by omega) (by omega)
    have b5 : 4 ^ min k b * 2 ^ (w + 25) ≤ 2 ^ (w + 65) := Nat.le_trans f (by rw [e65]; exact hC)
    exact ⟨lim_len_p2 (w := w + 77) (by omega) (by omega), lim_len_p2 (w := w + 77) (by omega) (by omega), lim_len_p2 (w := w + 77) (by omega) (by omega), lim_len_p2 (w := w + 77) (by omega) (by omega)⟩)
  generalize unN x w = y1 at *
  clear hz h0 h1
  refine Go.Ev.Fn.intro (fn := Tryz.f28) (body := (Tryz.f28).body.get!) (by kernel_rfl) (by kernel_rfl) (by kernel_rfl) (fun _ => rfl) (Nat.le_of_ble_eq_true (by kernel_rfl)) ?_; unfold Tryz.f28; simp only [Option.get!_some]
  repeat (first | (simp only [go_sem, Nat.reduceEqDiff, Nat.reduceAdd, Nat.reduceSub, Nat.reduceMul, Nat.reduceLeDiff, Nat.reduceLT, reduceIte, reduceCtorEq, Nat.succ_ne_zero, elemsC, Int.reduceToNat, Nat.reducePow]) | (simp (disch := (first | omega | (simp only [AL, List.length_map]; omega))) only [AR, AL, ifT, ifF, take_all, List.length_cons, List.length_nil, Int.reduceToNat, Int.reducePow, Nat.reducePow]) | (refine wk_intro (by kernel_rfl) ?_) | (refine vf_of (by first | exact r | exact fi) ?_))
  refine vp_loop_inv (fun s => s.tmp 0 = .sv (.int .i64 (a : Int)) ∧ s.tmp 1 = .sv (.int .i64 (b : Int)) ∧ s.tmp 3 = .sv (.int .i64 (w : Int)) ∧ s.tmp 8 = .ptr 8 0 0 ∧ s.obj 8 0 = some [.sl 0 [], .sl 0 []] ∧ s.tmp 9 = .ptr 9 0 0 ∧ s.obj 9 0 = some [natV (lim y1), natV (lim (y1 + 1))] ∧ s.tmp 10 = .ptr 10 0 0 ∧ s.tmp 11 = .ptr 11 0 0 ∧
      ∃ f k t1 t2 a1 a2 : Nat, s.tmp 12 = .sv (.int .i64 (k : Int)) ∧ f + k = 2201 ∧ rowGo w y1 (y1 + 1) a b f k t1 t2 a1 a2 = some (A', B', K) ∧ s.obj 10 0 = some [natV (lim t1), natV (lim t2)] ∧ s.obj 11 0 = some [natV (lim a1), natV (lim a2)] ∧
        okK w b (2 ^ (w + 25)) (2 ^ 69) k t1 t2 a1 a2)
    (fun s => match s.tmp 12 with | .sv (.int _ i) => 2202 - i.toNat | _ => 0) ⟨rfl, rfl, rfl, rfl, rfl, rfl, rfl, rfl, rfl, 2201, 0, F1, F2, F1, F2, rfl, rfl, hg, rfl, rfl, ok⟩ ?_
  rintro s ⟨i0, i1, i3, i8, o8, i9, o9, i10, i11, f, k, t1, t2, a1, a2, i12, hfk, hgo, o10, o11, hok⟩
  obtain ⟨lt1, lt2, la1, la2⟩ := lens k t1 t2 a1 a2 (by omega) hok
  have st := step k t1 t2 a1 a2 hok
  have sm := fix_Small (a := t1) (b := t2) (by omega) (k := 3) (by omega)
  clear hP hp25 e65 hC g1 g2 g3
  cases f with
  | zero => simp only [rowGo] at hgo; cases hgo
  | succ f =>
    rw [rowGo] at hgo
    by_cases hs : b ≤ k ∧ t2 < 8
    · rw [if_pos hs] at hgo
      simp only [Option.some.injEq, Prod.mk.injEq] at hgo
      obtain ⟨rfl, rfl, rfl⟩ := hgo
      rw [decide_eq_true (show t2 < 2 ^ 3 from hs.2)] at sm
      have hs1 := hs.1
      have wd := fix_Wider (a := a1) (b := a2) (n := 64) (by omega) (by omega) (by omega)
      clear step lens st hs hg
      repeat (first | (simp only [go_sem, Nat.reduceEqDiff, Nat.reduceAdd, Nat.reduceSub, Nat.reduceMul, Nat.reduceLeDiff, Nat.reduceLT, reduceIte, reduceCtorEq, Nat.succ_ne_zero, elemsC, Int.reduceToNat, Nat.reducePow, i0, i1, i3, i8, o8, i9, o9, i10, i11, i12, o10, o11, Bool.not_true]) | (simp (disch := (first | omega | (simp only [AL, List.length_map]; omega))) only [AR, AL, ifT, ifF, take_all, List.length_cons, List.length_nil, Int.reduceToNat, Int.reducePow, Nat.reducePow, i0, i1, i3, i8, o8, i9, o9, i10, i11, i12, o10, o11, Bool.not_true]) | (refine wk_intro (by kernel_rfl) ?_) | (refine vf_of (by first | exact sm | exact wd) ?_))
    · rw [if_neg hs] at hgo
      obtain ⟨lu1, lu2, lb1, lb2⟩ := lens (k + 1) _ _ _ _ (by omega) st
      have mu := fix_Mul (a := t1) (b := t2) (c := y1) (d := y1 + 1) (w := w) (by omega) (by omega) (by omega) (by omega) (by omega) (by omega)
      have q1 := nat_Of (a + b + 2 * k) (by omega)
      have q2 := nat_Of (a + 2 + 2 * k) (by omega)
      have lq1 : (lim (a + b + 2 * k)).length ≤ 1 := lim_len_one (by omega)
      have lq2 : (lim (a + 2 + 2 * k)).length ≤ 1 := lim_len_one (by omega)
      have z1 := lim_len_mul (a := t1) (b := y1)
      have z2 := lim_len_mul (a := t2) (b := y1 + 1)
      have z3 := lim_len_mono (Nat.div_le_self (t1 * y1) (2 ^ w))
      have l1 := lim_len1
      have z4 := lim_len_add (a := t2 * (y1 + 1) / 2 ^ w) (b := 1) (L := 200) (Nat.le_trans (lim_len_mono (Nat.div_le_self (t2 * (y1 + 1)) (2 ^ w))) (by omega)) (by omega)
      have ti := fix_Times (a := t1 * y1 / 2 ^ w) (b := t2 * (y1 + 1) / 2 ^ w + 1) (n := a + b + 2 * k) (d := a + 2 + 2 * k) (by omega) (by omega) (by omega) (by omega) (by omega)
      rw [show ((a + b + 2 * k : Nat) : Int) = (a : Int) + (b : Int) + 2 * (k : Int) by omega] at q1
      rw [show ((a + 2 + 2 * k : Nat) : Int) = (a : Int) + 2 + 2 * (k : Int) by omega] at q2
      generalize t1 * y1 / 2 ^ w * (a + b + 2 * k) / (a + 2 + 2 * k) = u1 at *
      generalize (t2 * (y1 + 1) / 2 ^ w + 1) * (a + b + 2 * k) / (a + 2 + 2 * k) + 1 = u2 at *
      generalize t1 * y1 / 2 ^ w = v1 at *
      generalize t2 * (y1 + 1) / 2 ^ w + 1 = v2 at *
      have ad := fix_Add (a := a1) (b := a2) (c := u1) (d := u2) (by omega) (by omega) (by omega) (by omega)
      clear step lens hg
      by_cases hk : b ≤ k
      · rw [decide_eq_false (show ¬ t2 < 2 ^ 3 from fun h => hs ⟨hk, h⟩)] at sm
        repeat (first | (simp only [go_sem, Nat.reduceEqDiff, Nat.reduceAdd, Nat.reduceSub, Nat.reduceMul, Nat.reduceLeDiff, Nat.reduceLT, reduceIte, reduceCtorEq, Nat.succ_ne_zero, elemsC, Int.reduceToNat, Nat.reducePow, i0, i1, i3, i8, o8, i9, o9, i10, i11, i12, o10, o11, Bool.not_false]) | (simp (disch := (first | omega | (simp only [AL, List.length_map]; omega))) only [AR, AL, ifT, ifF, take_all, List.length_cons, List.length_nil, Int.reduceToNat, Int.reducePow, Nat.reducePow, i0, i1, i3, i8, o8, i9, o9, i10, i11, i12, o10, o11, Bool.not_false]) | (refine wk_intro (by kernel_rfl) ?_) | (refine vf_of (by first | exact sm | exact mu | exact q1 | exact q2 | exact ti | exact ad) ?_))
        exact ⟨⟨f, k + 1, u1, u2, a1 + u1, a2 + u2, rfl, by omega, hgo, rfl, rfl, st⟩, by omega⟩
      · repeat (first | (simp only [go_sem, Nat.reduceEqDiff, Nat.reduceAdd, Nat.reduceSub, Nat.reduceMul, Nat.reduceLeDiff, Nat.reduceLT, reduceIte, reduceCtorEq, Nat.succ_ne_zero, elemsC, Int.reduceToNat, Nat.reducePow, i0, i1, i3, i8, o8, i9, o9, i10, i11, i12, o10, o11]) | (simp (disch := (first | omega | (simp only [AL, List.length_map]; omega))) only [AR, AL, ifT, ifF, take_all, List.length_cons, List.length_nil, Int.reduceToNat, Int.reducePow, Nat.reducePow, i0, i1, i3, i8, o8, i9, o9, i10, i11, i12, o10, o11]) | (refine wk_intro (by kernel_rfl) ?_))
        repeat (first | (simp only [go_sem, Nat.reduceEqDiff, Nat.reduceAdd, Nat.reduceSub, Nat.reduceMul, Nat.reduceLeDiff, Nat.reduceLT, reduceIte, reduceCtorEq, Nat.succ_ne_zero, elemsC, Int.reduceToNat, Nat.reducePow, i0, i1, i3, i8, o8, i9, o9, i10, i11, i12, o10, o11]) | (simp (disch := (first | omega | (simp only [AL, List.length_map]; omega))) only [AR, AL, ifT, ifF, take_all, List.length_cons, List.length_nil, Int.reduceToNat, Int.reducePow, Nat.reducePow, i0, i1, i3, i8, o8, i9, o9, i10, i11, i12, o10, o11]) | (refine wk_intro (by kernel_rfl) ?_) | (refine vf_of (by first | exact mu | exact q1 | exact q2 | exact ti | exact ad) ?_))
        exact ⟨⟨f, k + 1, u1, u2, a1 + u1, a2 + u2, rfl, by omega, hgo, rfl, rfl, st⟩, by omega⟩
end
end Go.Proofs.YtigiblhmhmgagaaGreat

/- vernierref2.Is; vernierref4: Of, Is, Width, Bit, Hold, Side, Good, Same, in the evaluator. -/
namespace Go.Proofs.YtigiblhmhmgagaaGreat
set_option linter.unusedSimpArgs false
set_option linter.unusedVariables false
set_option maxRecDepth 8000
open Go.Ev
theorem beq_true_self (b : Bool) : (b == b) = true := by cases b <;> rfl
theorem ref2_Is {q : Rat} {L : Nat} (hq : szR q L) (hL : L ≤ 1000000) : Go.Ev.Fn CX 82 [rv q] (.bool true) := by
  have n1 := ref2_Norm (RatA_rv hq) (by omega)
  have l1 := ref2_limbs (lim q.num.natAbs) (lim q.num.natAbs) (by have := hq.1; omega) (by have := hq.1; omega)
  have l2 := ref2_limbs (lim q.den) (lim q.den) (by have := hq.2; omega) (by have := hq.2; omega)
  rw [decide_eq_true rfl] at l1 l2
  have hb := beq_true_self (decide (q.num < 0))
  refine Go.Ev.Fn.intro (fn := Tryz.f82) (body := (Tryz.f82).body.get!) (by kernel_rfl) (by kernel_rfl) (by kernel_rfl) (fun _ => rfl) (Nat.le_of_ble_eq_true (by kernel_rfl)) ?_; unfold Tryz.f82; simp only [Option.get!_some]
  repeat (first | (simp only [go_sem, Nat.reduceEqDiff, Nat.reduceAdd, Nat.reduceSub, Nat.reduceMul, Nat.reduceLeDiff, Nat.reduceLT, reduceIte, reduceCtorEq, Nat.succ_ne_zero, elemsC, Int.reduceToNat, Nat.reducePow, hb]) | (simp (disch := (first | omega | (simp only [AL, List.length_map]; omega))) only [AR, AL, ifT, ifF, take_all, List.length_cons, List.length_nil, Int.reduceToNat, Int.reducePow, Nat.reducePow, hb]) | (refine wk_intro (by kernel_rfl) ?_) | (refine vf_of (by first | exact n1 | exact l1 | exact l2) ?_))
theorem ref4_Of {v : SV} {q : Rat} {L : Nat} (hv : RatA v q L) (hL : L ≤ 1000000) : Go.Ev.Fn CX 11 [v] (ballR q q) := by
  have n1 := ref2_Norm hv (by omega)
  obtain ⟨s, n, d, rfl, -⟩ := hv
  refine Go.Ev.Fn.intro (fn := Tryz.f11) (body := (Tryz.f11).body.get!) (by kernel_rfl) (by kernel_rfl) (by kernel_rfl) (fun _ => rfl) (Nat.le_of_ble_eq_true (by kernel_rfl)) ?_; unfold Tryz.f11; simp only [Option.get!_some]
  repeat (first | (simp only [go_sem, Nat.reduceEqDiff, Nat.reduceAdd, Nat.reduceSub, Nat.reduceMul, Nat.reduceLeDiff, Nat.reduceLT, reduceIte, reduceCtorEq, Nat.succ_ne_zero, elemsC, Int.reduceToNat, Nat.reducePow]) | (simp (disch := (first | omega | (simp only [AL, List.length_map]; omega))) only [AR, AL, ifT, ifF, take_all, List.length_cons, List.length_nil, Int.reduceToNat, Int.reducePow, Nat.reducePow]) | (refine wk_intro (by kernel_rfl) ?_) | (refine vp_draw (id := 1) (l := []) (by kernel_rfl) ?_) | (refine vf_of (by first | exact n1) ?_))
section
variable {a b c d : Rat} {L M : Nat}
theorem ref4_Is (ha : szR a L) (hb : szR b L) (hL1 : 1 ≤ L) (hL : L ≤ 100000) (h : a ≤ b) : Go.Ev.Fn CX 40 [ballR a b] (.bool true) := by
  have i1 := ref2_Is ha (by omega)
  have i2 := ref2_Is hb (by omega)
  have c1 := ref2_Cmp (RatA_rv ha) (RatA_rv hb) hL1 hL1 (by omega)
  have e1 : decide (cmpR a b ≤ 0) = true := by rw [cmpR_le]; exact decide_eq_true h
  generalize cmpR a b = z at *
  refine Go.Ev.Fn.intro (fn := Tryz.f40) (body := (Tryz.f40).body.get!) (by kernel_rfl) (by kernel_rfl) (by kernel_rfl) (fun _ => rfl) (Nat.le_of_ble_eq_true (by kernel_rfl)) ?_; unfold Tryz.f40; simp only [Option.get!_some]
  repeat (first | (simp only [go_sem, Nat.reduceEqDiff, Nat.reduceAdd, Nat.reduceSub, Nat.reduceMul, Nat.reduceLeDiff, Nat.reduceLT, reduceIte, reduceCtorEq, Nat.succ_ne_zero, elemsC, Int.reduceToNat, Nat.reducePow, e1]) | (simp (disch := (first | omega | (simp only [AL, List.length_map]; omega))) only [AR, AL, ifT, ifF, take_all, List.length_cons, List.length_nil, Int.reduceToNat, Int.reducePow, Nat.reducePow, e1]) | (refine wk_intro (by kernel_rfl) ?_) | (refine vf_of (by first | exact i1 | exact i2 | exact c1) ?_))
theorem ref4_Width (ha : szR a L) (hb : szR b L) (hL1 : 1 ≤ L) (hL : L ≤ 100000) : Go.Ev.Fn CX 41 [ballR a b] (rv (b - a)) := by
  have s := ref2_Sub (RatA_rv hb) (RatA_rv ha) hL1 hL1 (by omega)
  refine Go.Ev.Fn.intro (fn := Tryz.f41) (body := (Tryz.f41).body.get!) (by kernel_rfl) (by kernel_rfl) (by kernel_rfl) (fun _ => rfl) (Nat.le_of_ble_eq_true (by kernel_rfl)) ?_; unfold Tryz.f41; simp only [Option.get!_some]
  repeat (first | (simp only [go_sem, Nat.reduceEqDiff, Nat.reduceAdd, Nat.reduceSub, Nat.reduceMul, Nat.reduceLeDiff, Nat.reduceLT, reduceIte, reduceCtorEq, Nat.succ_ne_zero, elemsC, Int.reduceToNat, Nat.reducePow]) | (simp (disch := (first | omega | (simp only [AL, List.length_map]; omega))) only [AR, AL, ifT, ifF, take_all, List.length_cons, List.length_nil, Int.reduceToNat, Int.reducePow, Nat.reducePow]) | (refine wk_intro (by kernel_rfl) ?_) | (refine vf_of (by first | exact s) ?_))
theorem ref4_Bit {p : Nat} (hp : p ≤ 512) : Go.Ev.Fn CX 42 [.int .i64 (p : Int)] (rv (mkRat 1 (2 ^ p))) := by
  have s := ref1_shl (N := 1) (m := p) (by rw [lim_one]; simp) (by omega)
  rw [Nat.one_mul, lim_one] at s
  have l := lim_len_shl (a := 1) (n := p)
  have l1 := lim_len1
  rw [Nat.one_mul] at l
  have o := ref2_OfL (s := false) (n := 1) (d := 2 ^ p) (by omega) (by omega)
  rw [lim_one, show sgn false 1 = 1 from rfl] at o
  generalize mkRat 1 (2 ^ p) = r at *
  generalize 2 ^ p = P at *
  refine Go.Ev.Fn.intro (fn := Tryz.f42) (body := (Tryz.f42).body.get!) (by kernel_rfl) (by kernel_rfl) (by kernel_rfl) (fun _ => rfl) (Nat.le_of_ble_eq_true (by kernel_rfl)) ?_; unfold Tryz.f42; simp only [Option.get!_some]
  repeat (first | (simp only [go_sem, Nat.reduceEqDiff, Nat.reduceAdd, Nat.reduceSub, Nat.reduceMul, Nat.reduceLeDiff, Nat.reduceLT, reduceIte, reduceCtorEq, Nat.succ_ne_zero, elemsC, Int.reduceToNat, Nat.reducePow]) | (simp (disch := (first | omega | (simp only [AL, List.length_map]; omega))) only [AR, AL, ifT, ifF, take_all, List.length_cons, List.length_nil, Int.reduceToNat, Int.reducePow, Nat.reducePow]) | (refine wk_intro (by kernel_rfl) ?_) | (refine vf_of (by first | exact s | exact o) ?_))
theorem ref4_Hold {p : Int} {P : Nat} (h : (p ≤ 0 ∧ P = 0) ∨ p = (P : Int)) (hP : P ≤ 512) : Go.Ev.Fn CX 43 [.int .i64 p] (.int .i64 (P : Int)) := by
  have e1 : (if (0 : Int) > p then (0 : Int) else p) = (P : Int) := by split <;> omega
  have e2 : (if (512 : Int) < (P : Int) then (512 : Int) else (P : Int)) = (P : Int) := if_neg (by omega)
  refine Go.Ev.Fn.intro (fn := Tryz.f43) (body := (Tryz.f43).body.get!) (by kernel_rfl) (by kernel_rfl) (by kernel_rfl) (fun _ => rfl) (Nat.le_of_ble_eq_true (by kernel_rfl)) ?_; unfold Tryz.f43; simp only [Option.get!_some]
  repeat (first | (simp only [go_sem, Nat.reduceEqDiff, Nat.reduceAdd, Nat.reduceSub, Nat.reduceMul, Nat.reduceLeDiff, Nat.reduceLT, reduceIte, reduceCtorEq, Nat.succ_ne_zero, elemsC, Int.reduceToNat, Nat.reducePow, e1, e2]) | (simp (disch := (first | omega | (simp only [AL, List.length_map]; omega))) only [AR, AL, ifT, ifF, take_all, List.length_cons, List.length_nil, Int.reduceToNat, Int.reducePow, Nat.reducePow, e1, e2]) | (refine wk_intro (by kernel_rfl) ?_))
theorem ref4_Side0 (ha : szR a L) (hb : szR b L) (hc : szR c M) (hd : szR d M) (hL1 : 1 ≤ L) (hM1 : 1 ≤ M) (hL : L + M ≤ 100000) (h1 : c ≤ b) (h2 : a ≤ d) : Go.Ev.Fn CX 18 [ballR a b, ballR c d] (.int .i64 0) := by
  have c1 := ref2_Cmp (RatA_rv hb) (RatA_rv hc) hL1 hM1 (by omega)
  have c2 := ref2_Cmp (RatA_rv ha) (RatA_rv hd) hL1 hM1 (by omega)
  have e1 : decide (cmpR b c < 0) = false := by rw [cmpR_lt]; exact decide_eq_false (by grind)
  have e2 : decide (cmpR a d > 0) = false := by rw [cmpR_gt]; exact decide_eq_false (by grind)
  generalize cmpR b c = z1 at *
  generalize cmpR a d = z2 at *
  refine Go.Ev.Fn.intro (fn := Tryz.f18) (body := (Tryz.f18).body.get!) (by kernel_rfl) (by kernel_rfl) (by kernel_rfl) (fun _ => rfl) (Nat.le_of_ble_eq_true (by kernel_rfl)) ?_; unfold Tryz.f18; simp only [Option.get!_some]
  repeat (first | (simp only [go_sem, Nat.reduceEqDiff, Nat.reduceAdd, Nat.reduceSub, Nat.reduceMul, Nat.reduceLeDiff, Nat.reduceLT, reduceIte, reduceCtorEq, Nat.succ_ne_zero, elemsC, Int.reduceToNat, Nat.reducePow, e1, e2]) | (simp (disch := (first | omega | (simp only [AL, List.length_map]; omega))) only [AR, AL, ifT, ifF, take_all, List.length_cons, List.length_nil, Int.reduceToNat, Int.reducePow, Nat.reducePow, e1, e2]) | (refine wk_intro (by kernel_rfl) ?_) | (refine vf_of (by first | exact c1 | exact c2) ?_))
/-- A ball that is narrow, and meets another one, is good. -/
theorem ref4_Good {p : Int} {P : Nat} (hp : (p ≤ 0 ∧ P = 0) ∨ p = (P : Int)) (hP : P ≤ 512) (ha : szR a L) (hb : szR b L) (hc : szR c M) (hd : szR d M) (hL1 : 1 ≤ L) (hM1 : 1 ≤ M) (hL : L + M ≤ 100000) (h0 : a ≤ b) (h1 : c ≤ b) (h2 : a ≤ d) (hw : (b - a) * p2 P ≤ 1) :
    Go.Ev.Fn CX 13 [ballR a b, ballR c d, .int .i64 p] (.bool true) := by
  have i := ref4_Is ha hb hL1 (by omega) h0
  have w := ref4_Width ha hb hL1 (by omega)
  have hh := ref4_Hold hp hP
  have bt := ref4_Bit hP
  have l := lim_len_shl (a := 1) (n := P)
  have l1 := lim_len1
  rw [Nat.one_mul] at l
  have zb : szR (mkRat 1 (2 ^ P)) 20 := szR_mk (s := false) (n := 1) (d := 2 ^ P) (by omega) (by omega) (by omega)
  have zw := szR_sub hb ha hL1
  have c1 := ref2_Cmp (RatA_rv zw) (RatA_rv zb) (by omega) (by omega) (by omega)
  have e0 : b - a ≤ mkRat 1 (2 ^ P) := by
    refine le_by (p2_pos P) ?_
    have : mkRat 1 (2 ^ P) * p2 P = 1 := by
      rw [Rat.mkRat_eq_div]
      exact Rat.div_mul_cancel (by have : (0 : Rat) < p2 P := p2_pos P; grind)
    rw [this]; exact hw
  have e1 : decide (cmpR (b - a) (mkRat 1 (2 ^ P)) ≤ 0) = true := by rw [cmpR_le]; exact decide_eq_true e0
  have sd := ref4_Side0 ha hb hc hd hL1 hM1 (by omega) h1 h2
  generalize cmpR (b - a) (mkRat 1 (2 ^ P)) = z at *
  generalize mkRat 1 (2 ^ P) = r at *
  generalize b - a = x at *
  refine Go.Ev.Fn.intro (fn := Tryz.f13) (body := (Tryz.f13).body.get!) (by kernel_rfl) (by kernel_rfl) (by kernel_rfl) (fun _ => rfl) (Nat.le_of_ble_eq_true (by kernel_rfl)) ?_; unfold Tryz.f13; simp only [Option.get!_some]
  repeat (first | (simp only [go_sem, Nat.reduceEqDiff, Nat.reduceAdd, Nat.reduceSub, Nat.reduceMul, Nat.reduceLeDiff, Nat.reduceLT, reduceIte, reduceCtorEq, Nat.succ_ne_zero, elemsC, Int.reduceToNat, Nat.reducePow, e1]) | (simp (disch := (first | omega | (simp only [AL, List.length_map]; omega))) only [AR, AL, ifT, ifF, take_all, List.length_cons, List.length_nil, Int.reduceToNat, Int.reducePow, Nat.reducePow, e1]) | (refine wk_intro (by kernel_rfl) ?_) | (refine vf_of (by first | exact i | exact w | exact hh | exact bt | exact c1 | exact sd) ?_))
theorem ref4_Same (ha : szR a L) (hb : szR b L) (hL1 : 1 ≤ L) (hL : L ≤ 100000) : Go.Ev.Fn CX 10 [ballR a b, ballR a b] (.bool true) := by
  have s1 := ref2_Same (RatA_rv ha) (RatA_rv ha) hL1 hL1 (by omega)
  have s2 := ref2_Same (RatA_rv hb) (RatA_rv hb) hL1 hL1 (by omega)
  rw [decide_eq_true rfl] at s1 s2
  refine Go.Ev.Fn.intro (fn := Tryz.f10) (body := (Tryz.f10).body.get!) (by kernel_rfl) (by kernel_rfl) (by kernel_rfl) (fun _ => rfl) (Nat.le_of_ble_eq_true (by kernel_rfl)) ?_; unfold Tryz.f10; simp only [Option.get!_some]
  repeat (first | (simp only [go_sem, Nat.reduceEqDiff, Nat.reduceAdd, Nat.reduceSub, Nat.reduceMul, Nat.reduceLeDiff, Nat.reduceLT, reduceIte, reduceCtorEq, Nat.succ_ne_zero, elemsC, Int.reduceToNat, Nat.reducePow]) | (simp (disch := (first | omega | (simp only [AL, List.length_map]; omega))) only [AR, AL, ifT, ifF, take_all, List.length_cons, List.length_nil, Int.reduceToNat, Int.reducePow, Nat.reducePow]) | (refine wk_intro (by kernel_rfl) ?_) | (refine vf_of (by first | exact s1 | exact s2) ?_))
end
end Go.Proofs.YtigiblhmhmgagaaGreat

/- The document's intervals of numbers that are not below 0; vernierref12.power, in the evaluator. -/
namespace Go.Proofs.YtigiblhmhmgagaaGreat
set_option linter.unusedSimpArgs false
set_option linter.unusedVariables false
set_option maxRecDepth 8000
open Go.Ev
set_option linter.unusedVariables false
theorem cdv_ge (a : Nat) {d : Nat} (hd : 0 < d) : a ≤ cdv a d * d := by
  unfold cdv
  have h1 := Nat.div_add_mod (a + d - 1) d
  have h2 := Nat.mod_lt (a + d - 1) hd
  rw [Nat.mul_comm] at h1
  omega
theorem cdv_geR (a : Nat) {d : Nat} (hd : 0 < d) : (a : Rat) ≤ ((cdv a d : Nat) : Rat) * (d : Rat) := by
  have := cdv_ge a hd
  exact_mod_cast this
section
variable {w a b c d : Nat} {q r : Rat}
theorem one_szR' : szR 1 1 := ⟨lim_len_lt (by decide +kernel), lim_len_lt (by decide +kernel)⟩
theorem enc_prodN (h1 : Enc w a b q) (h2 : Enc w c d r) : Enc w (a * c / 2 ^ w) (cdv (b * d) (2 ^ w)) (q * r) := by
  have P := p2_pos w
  refine ⟨(enc_mul h1 h2).1, le_by P ?_⟩
  have g := cdv_geR (b * d) (show 0 < 2 ^ w from Nat.pow_pos (by omega))
  have c1 : ((b * d : Nat) : Rat) = (b : Rat) * (d : Rat) := by exact_mod_cast rfl
  have m := mul_le h1.2 h2.2 (nat_nonneg b) (Rat.mul_nonneg (enc_nonneg h2) (Rat.le_of_lt P))
  rw [c1] at g
  have e : q * r * p2 w * p2 w = q * p2 w * (r * p2 w) := by grind
  rw [e]
  exact Rat.le_trans m g
theorem enc_byN {n m : Nat} (hm : 0 < m) (h : Enc w a b q) : Enc w (a * n / m) (cdv (b * n) m) (q * (n : Rat) / (m : Rat)) := by
  have M : (0 : Rat) < (m : Rat) := by exact_mod_cast hm
  refine ⟨(enc_times hm h).1, le_by M ?_⟩
  have g := cdv_geR (b * n) hm
  have c1 : ((b * n : Nat) : Rat) = (b : Rat) * (n : Rat) := by exact_mod_cast rfl
  rw [c1] at g
  have e := Rat.div_mul_cancel (a := q * (n : Rat)) (b := (m : Rat)) (by grind)
  have m1 := Rat.mul_le_mul_of_nonneg_right h.2 (nat_nonneg n)
  generalize q * (n : Rat) / (m : Rat) = z at *
  have e2 : z * p2 w * (m : Rat) = q * p2 w * (n : Rat) := by grind
  rw [e2]
  exact Rat.le_trans m1 g
/-- A number in units, rounded up. -/
def upN (q : Rat) (w : Nat) : Nat := cdv (q.num.natAbs * 2 ^ w) q.den
theorem un_up (w : Nat) : unN q w ≤ upN q w := div_le_cdv q.den_pos (Nat.le_refl _)
theorem up_unR (h0 : 0 ≤ q) : q * p2 w ≤ ((upN q w : Nat) : Rat) := by
  have D : (0 : Rat) < (q.den : Rat) := by exact_mod_cast q.den_pos
  have g := cdv_geR (q.num.natAbs * 2 ^ w) q.den_pos
  have e : ((q.num.natAbs * 2 ^ w : Nat) : Rat) = q * p2 w * (q.den : Rat) := by
    have c1 : ((q.num.natAbs * 2 ^ w : Nat) : Rat) = ((q.num.natAbs : Nat) : Rat) * p2 w := by exact_mod_cast rfl
    have h := num_den q
    have h2 : ((q.num.natAbs : Nat) : Rat) = (q.num : Rat) := by
      have : (q.num.natAbs : Int) = q.num := Int.natAbs_of_nonneg (Rat.num_nonneg.2 h0)
      rw [← this]; rfl
    rw [c1, h2, ← h]
    grind
  rw [e] at g
  exact le_by D g
theorem num_enc (h0 : 0 ≤ q) (w : Nat) : Enc w (unN q w) (upN q w) q := ⟨(unN_le h0 w).1, up_unR h0⟩
theorem num_abs (h0 : 0 ≤ q) : ((q.num.natAbs : Nat) : Int) = q.num := Int.natAbs_of_nonneg (Rat.num_nonneg.2 h0)
/-- At most so many units, if it is at most so much. -/
theorem upN_le {n m : Nat} (h0 : 0 ≤ q) (h : q * (m : Rat) ≤ (n : Rat)) (hm : n * 2 ^ w ≤ c * m) (hm0 : 0 < m) : upN q w ≤ c := by
  refine cdv_le q.den_pos ?_
  have D : (0 : Rat) < (q.den : Rat) := by exact_mod_cast q.den_pos
  have h2 : ((q.num.natAbs : Nat) : Rat) = q * (q.den : Rat) := by
    rw [num_den q, ← num_abs h0]; rfl
  have h3 : ((q.num.natAbs * m : Nat) : Rat) ≤ ((n * q.den : Nat) : Rat) := by
    have c1 : ((q.num.natAbs * m : Nat) : Rat) = ((q.num.natAbs : Nat) : Rat) * (m : Rat) := by exact_mod_cast rfl
    have c2 : ((n * q.den : Nat) : Rat) = (n : Rat) * (q.den : Rat) := by exact_mod_cast rfl
    rw [c1, c2, h2]
    have := Rat.mul_le_mul_of_nonneg_right h (Rat.le_of_lt D)
    grind
  have h4 : q.num.natAbs * m ≤ n * q.den := by exact_mod_cast h3
  have h5 := Nat.mul_le_mul_right (2 ^ w) h4
  have h6 := Nat.mul_le_mul_right q.den hm
  refine Nat.le_of_mul_le_mul_right (c := m) ?_ hm0
  have e1 : q.num.natAbs * 2 ^ w * m = q.num.natAbs * m * 2 ^ w := by grind
  have e2 : n * q.den * 2 ^ w = n * 2 ^ w * q.den := by grind
  have e3 : c * q.den * m = c * m * q.den := by grind
  rw [e1, e3]
  rw [e2] at h5
  exact Nat.le_trans h5 h6
theorem upN_one (h0 : 0 ≤ q) (h1 : q ≤ 1) : upN q w ≤ 2 ^ w :=
  upN_le (n := 1) (m := 1) h0 (by
    have : ((1 : Nat) : Rat) = 1 := rfl
    rw [this]; grind) (by omega) (by omega)
theorem upN_half (h0 : 0 ≤ q) (h1 : q + q ≤ 1) (hw : 0 < w) : 2 * upN q w ≤ 2 ^ w := by
  have e : 2 ^ w = 2 * 2 ^ (w - 1) := by rw [← Nat.pow_succ', show (w - 1).succ = w by omega]
  have := upN_le (q := q) (w := w) (c := 2 ^ (w - 1)) (n := 1) (m := 2) h0 (by
    have a1 : ((1 : Nat) : Rat) = 1 := rfl
    have a2 : ((2 : Nat) : Rat) = 2 := rfl
    rw [a1, a2]; grind) (by omega) (by omega)
  omega
theorem ref4_NumN {v : SV} {L : Nat} (hv : RatA v q L) (hL1 : 1 ≤ L) (hL : L ≤ 100000) (hw : w ≤ 4096) (h0 : 0 ≤ q) : Go.Ev.Fn CX 36 [v, .int .i64 (w : Int)] (ivN (unN q w) (upN q w)) := by
  have h := ref4_Num hv hL1 hL hw
  rw [← num_abs h0, ← Int.natCast_mul, cdZ_nat q.den_pos, ← Int.natCast_ediv, ivN_eq] at h
  exact h
theorem ref4_SqrtN (ha : (lim a).length ≤ 60) (hb : (lim b).length ≤ 60) (hw : w ≤ 1000) : Go.Ev.Fn CX 109 [ivN a b, .int .i64 (w : Int)] (ivN (rtN (a * 2 ^ w)) (rtN (b * 2 ^ w) + 1)) := by
  have h := ref4_Sqrt ha hb hw
  rw [ivN_eq, ivN_eq] at h
  exact h
theorem rtN_mono {m n : Nat} (h : m ≤ n) : rtN m ≤ rtN n := by
  have h1 := rtN_le m
  have h2 := lt_rtN n
  rcases Nat.lt_or_ge (rtN n) (rtN m) with g | g
  · have := Nat.mul_le_mul (show rtN n + 1 ≤ rtN m by omega) (show rtN n + 1 ≤ rtN m by omega)
    omega
  · exact g
theorem sqrt_len (hb : b ≤ 2 ^ w) : rtN (b * 2 ^ w) ≤ 2 ^ w := by
  have h := rtN_mono (Nat.mul_le_mul_right (2 ^ w) hb)
  rw [← rtN_eq (a := 2 ^ w * 2 ^ w) (r := 2 ^ w) (Nat.le_refl _) (Nat.mul_lt_mul'' (by omega) (by omega))] at h
  exact h
/-- Points of a root's interval. -/
theorem sqrt_pts (h0 : 0 ≤ q) (e : Enc w a b q) : ∃ s1 s2 : Rat, 0 ≤ s1 ∧ s1 * s1 ≤ q ∧ 0 ≤ s2 ∧ q ≤ s2 * s2 ∧ ∀ s, s1 ≤ s → s ≤ s2 → Enc w (rtN (a * 2 ^ w)) (rtN (b * 2 ^ w) + 1) s := by
  have P := p2_pos w
  have PP : 0 < p2 w * p2 w := Rat.mul_pos P P
  have m1 := mk_p2n (rtN (a * 2 ^ w)) w
  have m2 := mk_p2n (rtN (b * 2 ^ w) + 1) w
  have l1 := nat_le_rat (rtN_le (a * 2 ^ w))
  have l2 := nat_le_rat (Nat.le_of_lt (lt_rtN (b * 2 ^ w)))
  have c1 : ∀ m n : Nat, ((m * n : Nat) : Rat) = (m : Rat) * (n : Rat) := by intro m n; exact_mod_cast rfl
  rw [c1, c1] at l1 l2
  change _ ≤ _ * p2 w at l1
  change _ * p2 w ≤ _ at l2
  obtain ⟨e1, e2⟩ := e
  have f1 := Rat.mul_le_mul_of_nonneg_right e1 (Rat.le_of_lt P)
  have f2 := Rat.mul_le_mul_of_nonneg_right e2 (Rat.le_of_lt P)
  have fin : ∀ s : Rat, ((rtN (a * 2 ^ w) : Nat) : Rat) ≤ s * p2 w → s * p2 w ≤ ((rtN (b * 2 ^ w) + 1 : Nat) : Rat) → Enc w (rtN (a * 2 ^ w)) (rtN (b * 2 ^ w) + 1) s := fun s h1 h2 => ⟨h1, h2⟩
  have n1 := nat_nonneg (rtN (a * 2 ^ w))
  have n2 := nat_nonneg (rtN (b * 2 ^ w) + 1)
  generalize ((rtN (a * 2 ^ w) : Nat) : Rat) = x at *
  generalize ((rtN (b * 2 ^ w) + 1 : Nat) : Rat) = y at *
  generalize mkRat ((rtN (a * 2 ^ w) : Nat) : Int) (2 ^ w) = s1 at *
  generalize mkRat ((rtN (b * 2 ^ w) + 1 : Nat) : Int) (2 ^ w) = s2 at *
  refine ⟨s1, s2, le_by P (by rw [m1, Rat.zero_mul]; exact n1), le_by PP ?_, le_by P (by rw [m2, Rat.zero_mul]; exact n2), le_by PP ?_, ?_⟩
  · have : s1 * s1 * (p2 w * p2 w) = s1 * p2 w * (s1 * p2 w) := by grind
    rw [this, m1]
    grind
  · have : s2 * s2 * (p2 w * p2 w) = s2 * p2 w * (s2 * p2 w) := by grind
    rw [this, m2]
    grind
  · intro s h1 h2
    have k1 := Rat.mul_le_mul_of_nonneg_right h1 (Rat.le_of_lt P)
    have k2 := Rat.mul_le_mul_of_nonneg_right h2 (Rat.le_of_lt P)
    exact fin s (by rw [← m1]; exact k1) (by rw [← m2]; exact k2)
end
/-- A power's rounds. -/
def pwI (w y1 y2 : Nat) : Nat → Nat → Nat → Nat × Nat
  | 0, r1, r2 => (r1, r2)
  | j + 1, r1, r2 => pwI w y1 y2 j (r1 * y1 / 2 ^ w) (cdv (r2 * y2) (2 ^ w))
theorem pwI_ok {w y1 y2 T : Nat} (h12 : y1 ≤ y2) (hy : y2 ≤ 2 ^ w) : ∀ (j r1 r2 : Nat), r1 ≤ r2 → r2 ≤ T → (pwI w y1 y2 j r1 r2).1 ≤ (pwI w y1 y2 j r1 r2).2 ∧ (pwI w y1 y2 j r1 r2).2 ≤ T
  | 0, _, _, h1, h2 => ⟨h1, h2⟩
  | j + 1, r1, r2, h1, h2 => by
    have P : 0 < 2 ^ w := Nat.pow_pos (by omega)
    exact pwI_ok h12 hy j _ _ (div_le_cdv P (Nat.mul_le_mul h1 h12)) (Nat.le_trans (cdv_le P (Nat.mul_le_mul_left _ hy)) h2)
theorem pwI_enc {w y1 y2 : Nat} {q : Rat} (hq : Enc w y1 y2 q) : ∀ (j r1 r2 : Nat) (s : Rat), Enc w r1 r2 s → Enc w (pwI w y1 y2 j r1 r2).1 (pwI w y1 y2 j r1 r2).2 (s * pwR q j)
  | 0, _, _, s, h => by
    show Enc _ _ _ (s * 1)
    rw [Rat.mul_one]; exact h
  | j + 1, r1, r2, s, h => by
    have := pwI_enc hq j _ _ _ (enc_prodN h hq)
    have e : s * q * pwR q j = s * pwR q (j + 1) := by
      show _ = s * (pwR q j * q)
      grind
    rw [e] at this
    exact this
section
variable {v : SV} {q : Rat} {w L n : Nat}
set_option maxHeartbeats 1000000 in
theorem ref12_power (hv : RatA v q L) (hL1 : 1 ≤ L) (hL : L ≤ 10) (h0 : 0 ≤ q) (h1 : q ≤ 1) (hn : n ≤ 30) (hw : w ≤ 900) (hw0 : 0 < w) :
    ∃ X1 X2 : Nat, ∃ s1 s2 : Rat, Go.Ev.Fn CX 69 [v, .int .i64 (n : Int), .int .i64 (w : Int)] (ivN X1 X2) ∧ X1 ≤ X2 ∧ X2 ≤ 2 ^ w + 1 ∧ 0 ≤ s1 ∧ s1 * s1 ≤ q ∧ 0 ≤ s2 ∧ q ≤ s2 * s2 ∧
      ∀ s, s1 ≤ s → s ≤ s2 → Enc w X1 X2 (pwR q (n / 2) * (if n % 2 = 1 then s else 1)) := by
  have nb := ref4_NumN (w := w) hv hL1 (by omega) (by omega) h0
  have n1 := ref4_NumN (w := w) (RatA_rv (one_szR')) (by omega) (by omega) (by omega) (show (0 : Rat) ≤ 1 by decide)
  have u1 : unN 1 w = 2 ^ w := by show 1 * 2 ^ w / 1 = _; rw [Nat.one_mul, Nat.div_one]
  have u2 : upN 1 w = 2 ^ w := by show cdv (1 * 2 ^ w) 1 = _; unfold cdv; rw [Nat.one_mul, Nat.div_one]; omega
  rw [u1, u2] at n1
  have i1 := ref2_Int 1 (by omega)
  rw [show ((1 : Int) : Rat) = 1 from rfl] at i1
  have en := num_enc h0 w
  have y12 := un_up (q := q) w
  have yT := upN_one (w := w) h0 h1
  obtain ⟨s1, s2, p1, p3, p2', p4, p5⟩ := sqrt_pts h0 en
  have sq := sqrt_len yT
  have sm : rtN (unN q w * 2 ^ w) ≤ rtN (upN q w * 2 ^ w) := rtN_mono (Nat.mul_le_mul_right _ y12)
  have one : Enc w (2 ^ w) (2 ^ w) 1 := by
    refine ⟨by rw [Rat.one_mul]; exact Rat.le_refl, by rw [Rat.one_mul]; exact Rat.le_refl⟩
  obtain ⟨r1, r2, hr12, hrT, henc, hwalk⟩ : ∃ r1 r2 : Nat, r1 ≤ r2 ∧ r2 ≤ 2 ^ w + 1 ∧ (∀ s, s1 ≤ s → s ≤ s2 → Enc w r1 r2 (if n % 2 = 1 then s else 1)) ∧ ((n % 2 = 1 ∧ r1 = rtN (unN q w * 2 ^ w) ∧ r2 = rtN (upN q w * 2 ^ w) + 1) ∨ (n % 2 = 0 ∧ r1 = 2 ^ w ∧ r2 = 2 ^ w)) := by
    by_cases h : n % 2 = 1
    · exact ⟨_, _, by omega, by omega, fun s a b => by rw [if_pos h]; exact p5 s a b, .inl ⟨h, rfl, rfl⟩⟩
    · exact ⟨_, _, Nat.le_refl _, by omega, fun s a b => by rw [if_neg h]; exact one, .inr ⟨by omega, rfl, rfl⟩⟩
  obtain ⟨k1, k2⟩ := pwI_ok (T := 2 ^ w + 1) y12 yT (n / 2) r1 r2 hr12 hrT
  refine ⟨_, _, s1, s2, ?_, k1, k2, p1, p3, p2', p4, fun s a b => by rw [Rat.mul_comm]; exact pwI_enc en (n / 2) _ _ _ (henc s a b)⟩
  have hp1 : 2 ^ w + 1 ≤ 2 ^ (w + 1) := by rw [Nat.pow_succ]; have : 0 < 2 ^ w := Nat.pow_pos (by omega); omega
  have ly2 := lim_len_p2 yT (by omega)
  have ly1 := lim_len_mono y12
  have sqf := ref4_SqrtN (a := unN q w) (b := upN q w) (w := w) (by omega) (by omega) (by omega)
  have hX : ∃ X, pwI w (unN q w) (upN q w) (n / 2) r1 r2 = X := ⟨_, rfl⟩
  obtain ⟨⟨X1, X2⟩, hX⟩ := hX
  rw [hX]
  clear henc en one p1 p3 p2' p4 p5 u1 u2 sm sq k1 k2
  generalize unN q w = y1 at *
  generalize upN q w = y2 at *
  have tm : (n : Int).tmod 2 = ((n % 2 : Nat) : Int) := _root_.id rfl
  rcases hwalk with ⟨hod, rfl, rfl⟩ | ⟨hod, rfl, rfl⟩
  all_goals rw [hod] at tm
  all_goals obtain ⟨s0, n0, d0, rfl, -⟩ := hv
  · refine Go.Ev.Fn.intro (fn := Tryz.f69) (body := (Tryz.f69).body.get!) (by kernel_rfl) (by kernel_rfl) (by kernel_rfl) (fun _ => rfl) (Nat.le_of_ble_eq_true (by kernel_rfl)) ?_; unfold Tryz.f69; simp only [Option.get!_some]
    repeat (first | (simp only [go_sem, Nat.reduceEqDiff, Nat.reduceAdd, Nat.reduceSub, Nat.reduceMul, Nat.reduceLeDiff, Nat.reduceLT, reduceIte, reduceCtorEq, Nat.succ_ne_zero, elemsC, Int.reduceToNat, Nat.reducePow, tm]) | (simp (disch := (first | omega | (simp only [AL, List.length_map]; omega))) only [AR, AL, ifT, ifF, take_all, List.length_cons, List.length_nil, Int.reduceToNat, Int.reducePow, Nat.reducePow, tm]) | (refine wk_intro (by kernel_rfl) ?_) | (refine vf_of (by first | exact nb | exact i1 | exact n1 | exact sqf) ?_))
    refine vp_loop_inv (fun s => s.tmp 1 = .sv (.int .i64 (n : Int)) ∧ s.tmp 2 = .sv (.int .i64 (w : Int)) ∧ s.tmp 6 = .ptr 6 0 0 ∧ s.obj 6 0 = some [.bool false, .sl 0 [], .bool false, .sl 0 []] ∧ s.tmp 7 = .ptr 7 0 0 ∧ s.obj 7 0 = some [.bool false, natV (lim y1), .bool false, natV (lim y2)] ∧ s.tmp 8 = .ptr 8 0 0 ∧
        ∃ j r1 r2 : Nat, s.tmp 9 = .sv (.int .i64 ((2 * (n / 2 - j) + 2 : Nat) : Int)) ∧ j ≤ n / 2 ∧ pwI w y1 y2 j r1 r2 = (X1, X2) ∧ s.obj 8 0 = some [.bool false, natV (lim r1), .bool false, natV (lim r2)] ∧ r1 ≤ r2 ∧ r2 ≤ 2 ^ w + 1)
      (fun s => match s.tmp 9 with | .sv (.int _ i) => n + 3 - i.toNat | _ => 0) ⟨rfl, rfl, rfl, rfl, rfl, rfl, rfl, n / 2, _, _, by rw [Nat.sub_self]; rfl, Nat.le_refl _, hX, rfl, hr12, hrT⟩ ?_
    rintro s ⟨i1, i2, i6, o6, i7, o7, i8, j, r1, r2, i9, hj, hpw, o8, g1, g2⟩
    cases j with
    | zero =>
      simp only [pwI, Prod.mk.injEq] at hpw
      obtain ⟨rfl, rfl⟩ := hpw
      rw [show 2 * (n / 2 - 0) + 2 = n + 2 - n % 2 by omega, hod] at i9
      obtain ⟨m, hm⟩ : ∃ m : Nat, m = n + 2 - 1 := ⟨_, rfl⟩
      rw [← hm] at i9
      have hmn : ¬ m ≤ n := by omega
      have hdec : decide ((m : Int) ≤ (n : Int)) = false := decide_eq_false (by omega)
      repeat (first | (simp only [go_sem, Nat.reduceEqDiff, Nat.reduceAdd, Nat.reduceSub, Nat.reduceMul, Nat.reduceLeDiff, Nat.reduceLT, reduceIte, reduceCtorEq, Nat.succ_ne_zero, elemsC, Int.reduceToNat, Nat.reducePow, i1, i2, i6, o6, i7, o7, i8, i9, o8, hdec]) | (simp (disch := (first | omega | (simp only [AL, List.length_map]; omega))) only [AR, AL, ifT, ifF, take_all, List.length_cons, List.length_nil, Int.reduceToNat, Int.reducePow, Nat.reducePow, i1, i2, i6, o6, i7, o7, i8, i9, o8, hdec]) | (refine wk_intro (by kernel_rfl) ?_))
    | succ j =>
      have lr2 := lim_len_p2 (Nat.le_trans g2 hp1) (by omega)
      have pr := ref4_ProdN (a := r1) (b := r2) (c := y1) (d := y2) (w := w) g1 y12 (by omega) (by omega) (by omega) hw0
      rw [pwI] at hpw
      obtain ⟨m, hm⟩ : ∃ m : Nat, m = 2 * (n / 2 - (j + 1)) + 2 := ⟨_, rfl⟩
      rw [← hm] at i9
      have hmn : m ≤ n := by omega
      have hdec : decide ((m : Int) ≤ (n : Int)) = true := decide_eq_true (by omega)
      have P : 0 < 2 ^ w := Nat.pow_pos (by omega)
      have u12 : r1 * y1 / 2 ^ w ≤ cdv (r2 * y2) (2 ^ w) := div_le_cdv P (Nat.mul_le_mul g1 y12)
      have u2 : cdv (r2 * y2) (2 ^ w) ≤ 2 ^ w + 1 := Nat.le_trans (cdv_le P (Nat.mul_le_mul_left _ yT)) g2
      generalize r1 * y1 / 2 ^ w = u at *
      generalize cdv (r2 * y2) (2 ^ w) = u' at *
      clear sqf
      repeat (first | (simp only [go_sem, Nat.reduceEqDiff, Nat.reduceAdd, Nat.reduceSub, Nat.reduceMul, Nat.reduceLeDiff, Nat.reduceLT, reduceIte, reduceCtorEq, Nat.succ_ne_zero, elemsC, Int.reduceToNat, Nat.reducePow, i1, i2, i6, o6, i7, o7, i8, i9, o8, hdec]) | (simp (disch := (first | omega | (simp only [AL, List.length_map]; omega))) only [AR, AL, ifT, ifF, take_all, List.length_cons, List.length_nil, Int.reduceToNat, Int.reducePow, Nat.reducePow, i1, i2, i6, o6, i7, o7, i8, i9, o8, hdec]) | (refine wk_intro (by kernel_rfl) ?_) | (refine vf_of (by first | exact pr) ?_))
      exact ⟨⟨j, u, u', by congr 3; omega, by omega, hpw, rfl, u12, u2⟩, by omega⟩
  · refine Go.Ev.Fn.intro (fn := Tryz.f69) (body := (Tryz.f69).body.get!) (by kernel_rfl) (by kernel_rfl) (by kernel_rfl) (fun _ => rfl) (Nat.le_of_ble_eq_true (by kernel_rfl)) ?_; unfold Tryz.f69; simp only [Option.get!_some]
    repeat (first | (simp only [go_sem, Nat.reduceEqDiff, Nat.reduceAdd, Nat.reduceSub, Nat.reduceMul, Nat.reduceLeDiff, Nat.reduceLT, reduceIte, reduceCtorEq, Nat.succ_ne_zero, elemsC, Int.reduceToNat, Nat.reducePow, tm]) | (simp (disch := (first | omega | (simp only [AL, List.length_map]; omega))) only [AR, AL, ifT, ifF, take_all, List.length_cons, List.length_nil, Int.reduceToNat, Int.reducePow, Nat.reducePow, tm]) | (refine wk_intro (by kernel_rfl) ?_) | (refine vf_of (by first | exact nb | exact i1 | exact n1) ?_))
    refine vp_loop_inv (fun s => s.tmp 1 = .sv (.int .i64 (n : Int)) ∧ s.tmp 2 = .sv (.int .i64 (w : Int)) ∧ s.tmp 6 = .ptr 6 0 0 ∧ s.obj 6 0 = some [.bool false, .sl 0 [], .bool false, .sl 0 []] ∧ s.tmp 7 = .ptr 7 0 0 ∧ s.obj 7 0 = some [.bool false, natV (lim y1), .bool false, natV (lim y2)] ∧ s.tmp 8 = .ptr 8 0 0 ∧
        ∃ j r1 r2 : Nat, s.tmp 9 = .sv (.int .i64 ((2 * (n / 2 - j) + 2 : Nat) : Int)) ∧ j ≤ n / 2 ∧ pwI w y1 y2 j r1 r2 = (X1, X2) ∧ s.obj 8 0 = some [.bool false, natV (lim r1), .bool false, natV (lim r2)] ∧ r1 ≤ r2 ∧ r2 ≤ 2 ^ w + 1)
      (fun s => match s.tmp 9 with | .sv (.int _ i) => n + 3 - i.toNat | _ => 0) ⟨rfl, rfl, rfl, rfl, rfl, rfl, rfl, n / 2, _, _, by rw [Nat.sub_self]; rfl, Nat.le_refl _, hX, rfl, hr12, hrT⟩ ?_
    rintro s ⟨i1, i2, i6, o6, i7, o7, i8, j, r1, r2, i9, hj, hpw, o8, g1, g2⟩
    cases j with
    | zero =>
      simp only [pwI, Prod.mk.injEq] at hpw
      obtain ⟨rfl, rfl⟩ := hpw
      rw [show 2 * (n / 2 - 0) + 2 = n + 2 - n % 2 by omega, hod] at i9
      obtain ⟨m, hm⟩ : ∃ m : Nat, m = n + 2 - 0 := ⟨_, rfl⟩
      rw [← hm] at i9
      have hmn : ¬ m ≤ n := by omega
      have hdec : decide ((m : Int) ≤ (n : Int)) = false := decide_eq_false (by omega)
      repeat (first | (simp only [go_sem, Nat.reduceEqDiff, Nat.reduceAdd, Nat.reduceSub, Nat.reduceMul, Nat.reduceLeDiff, Nat.reduceLT, reduceIte, reduceCtorEq, Nat.succ_ne_zero, elemsC, Int.reduceToNat, Nat.reducePow, i1, i2, i6, o6, i7, o7, i8, i9, o8, hdec]) | (simp (disch := (first | omega | (simp only [AL, List.length_map]; omega))) only [AR, AL, ifT, ifF, take_all, List.length_cons, List.length_nil, Int.reduceToNat, Int.reducePow, Nat.reducePow, i1, i2, i6, o6, i7, o7, i8, i9, o8, hdec]) | (refine wk_intro (by kernel_rfl) ?_))
    | succ j =>
      have lr2 := lim_len_p2 (Nat.le_trans g2 hp1) (by omega)
      have pr := ref4_ProdN (a := r1) (b := r2) (c := y1) (d := y2) (w := w) g1 y12 (by omega) (by omega) (by omega) hw0
      rw [pwI] at hpw
      obtain ⟨m, hm⟩ : ∃ m : Nat, m = 2 * (n / 2 - (j + 1)) + 2 := ⟨_, rfl⟩
      rw [← hm] at i9
      have hmn : m ≤ n := by omega
      have hdec : decide ((m : Int) ≤ (n : Int)) = true := decide_eq_true (by omega)
      have P : 0 < 2 ^ w := Nat.pow_pos (by omega)
      have u12 : r1 * y1 / 2 ^ w ≤ cdv (r2 * y2) (2 ^ w) := div_le_cdv P (Nat.mul_le_mul g1 y12)
      have u2 : cdv (r2 * y2) (2 ^ w) ≤ 2 ^ w + 1 := Nat.le_trans (cdv_le P (Nat.mul_le_mul_left _ yT)) g2
      generalize r1 * y1 / 2 ^ w = u at *
      generalize cdv (r2 * y2) (2 ^ w) = u' at *
      clear sqf
      repeat (first | (simp only [go_sem, Nat.reduceEqDiff, Nat.reduceAdd, Nat.reduceSub, Nat.reduceMul, Nat.reduceLeDiff, Nat.reduceLT, reduceIte, reduceCtorEq, Nat.succ_ne_zero, elemsC, Int.reduceToNat, Nat.reducePow, i1, i2, i6, o6, i7, o7, i8, i9, o8, hdec]) | (simp (disch := (first | omega | (simp only [AL, List.length_map]; omega))) only [AR, AL, ifT, ifF, take_all, List.length_cons, List.length_nil, Int.reduceToNat, Int.reducePow, Nat.reducePow, i1, i2, i6, o6, i7, o7, i8, i9, o8, hdec]) | (refine wk_intro (by kernel_rfl) ?_) | (refine vf_of (by first | exact pr) ?_))
      exact ⟨⟨j, u, u', by congr 3; omega, by omega, hpw, rfl, u12, u2⟩, by omega⟩
end
end Go.Proofs.YtigiblhmhmgagaaGreat

/- The row's sum: it rises, and what is left out is at most three times the last term: plain mathematics. -/
namespace Go.Proofs.YtigiblhmhmgagaaGreat
open Go.Ev
set_option linter.unusedVariables false
section
variable {x : Rat} {a b : Nat}
theorem rR_step (k : Nat) : rR x a b (k + 1) * ((a + 2 + 2 * k : Nat) : Rat) = rR x a b k * x * ((a + b + 2 * k : Nat) : Rat) := by
  have M : (0 : Rat) < ((a + 2 + 2 * k : Nat) : Rat) := by exact_mod_cast (show 0 < a + 2 + 2 * k by omega)
  show rR x a b k * x * ((a + b + 2 * k : Nat) : Rat) / ((a + 2 + 2 * k : Nat) : Rat) * _ = _
  exact Rat.div_mul_cancel (by grind)
theorem rR_nn (h : 0 ≤ x) : ∀ k, 0 ≤ rR x a b k := by
  intro k
  induction k with
  | zero => show (0 : Rat) ≤ 1; decide
  | succ k ih =>
    have M : (0 : Rat) < ((a + 2 + 2 * k : Nat) : Rat) := by exact_mod_cast (show 0 < a + 2 + 2 * k by omega)
    have e := rR_step (x := x) (a := a) (b := b) k
    refine le_by M ?_
    rw [e, Rat.zero_mul]
    exact Rat.mul_nonneg (Rat.mul_nonneg ih h) (nat_nonneg _)
theorem rR_fall (h : 0 ≤ x) (h1 : x + x ≤ 1) {k : Nat} (hk : b ≤ k) : 4 * rR x a b (k + 1) ≤ 3 * rR x a b k := by
  have M : (0 : Rat) < ((a + 2 + 2 * k : Nat) : Rat) := by exact_mod_cast (show 0 < a + 2 + 2 * k by omega)
  have e := rR_step (x := x) (a := a) (b := b) k
  have r0 := rR_nn (a := a) (b := b) h k
  have hn : ((2 * (a + b + 2 * k) : Nat) : Rat) ≤ ((3 * (a + 2 + 2 * k) : Nat) : Rat) := by exact_mod_cast (show 2 * (a + b + 2 * k) ≤ 3 * (a + 2 + 2 * k) by omega)
  have c1 : ((2 * (a + b + 2 * k) : Nat) : Rat) = 2 * ((a + b + 2 * k : Nat) : Rat) := by exact_mod_cast rfl
  have c2 : ((3 * (a + 2 + 2 * k) : Nat) : Rat) = 3 * ((a + 2 + 2 * k : Nat) : Rat) := by exact_mod_cast rfl
  rw [c1, c2] at hn
  have n0 := nat_nonneg (a + b + 2 * k)
  generalize ((a + 2 + 2 * k : Nat) : Rat) = m at *
  generalize ((a + b + 2 * k : Nat) : Rat) = n at *
  generalize rR x a b (k + 1) = r' at *
  generalize rR x a b k = r at *
  refine le_by M ?_
  have k1 : r * (n * (x + x)) ≤ r * (n * 1) := Rat.mul_le_mul_of_nonneg_left (Rat.mul_le_mul_of_nonneg_left h1 n0) r0
  have k2 : r * (2 * n) ≤ r * (3 * m) := Rat.mul_le_mul_of_nonneg_left hn r0
  have e1 : 4 * r' * m = 2 * (r * (n * (x + x))) := by
    have : 4 * r' * m = 4 * (r' * m) := by grind
    rw [this, e]; grind
  rw [e1]
  grind
theorem sR_up (h : 0 ≤ x) {k m : Nat} (hkm : k ≤ m) : sR x a b k ≤ sR x a b m := by
  obtain ⟨j, rfl⟩ := Nat.exists_eq_add_of_le hkm
  clear hkm
  induction j with
  | zero => exact Rat.le_refl
  | succ j ih =>
    have := rR_nn (a := a) (b := b) h (k + j + 1)
    show sR x a b k ≤ sR x a b (k + j) + rR x a b (k + j + 1)
    grind
/-- What is left out behind a late term is at most three times the term. -/
theorem sR_rest (h : 0 ≤ x) (h1 : x + x ≤ 1) {k m : Nat} (hk : b ≤ k) (hkm : k ≤ m) : sR x a b m + 3 * rR x a b m ≤ sR x a b k + 3 * rR x a b k := by
  obtain ⟨j, rfl⟩ := Nat.exists_eq_add_of_le hkm
  clear hkm
  induction j with
  | zero => exact Rat.le_refl
  | succ j ih =>
    have := rR_fall (a := a) h h1 (k := k + j) (show b ≤ k + j by omega)
    show sR x a b (k + j) + rR x a b (k + j + 1) + 3 * rR x a b (k + j + 1) ≤ _
    grind
/-- Any sum is at most a late one and three of its terms. -/
theorem sR_top (h : 0 ≤ x) (h1 : x + x ≤ 1) {k m : Nat} (hk : b ≤ k) : sR x a b m ≤ sR x a b k + 3 * rR x a b k := by
  rcases Nat.le_total m k with g | g
  · have := sR_up (a := a) (b := b) h g
    have := rR_nn (a := a) (b := b) h k
    grind
  · have := sR_rest (a := a) h h1 hk g
    have := rR_nn (a := a) (b := b) h m
    grind
end
end Go.Proofs.YtigiblhmhmgagaaGreat

/- vernierref12.row, in the evaluator. -/
namespace Go.Proofs.YtigiblhmhmgagaaGreat
set_option linter.unusedSimpArgs false
set_option linter.unusedVariables false
set_option maxRecDepth 8000
open Go.Ev
set_option linter.unusedVariables false
/-- The row's rounds. -/
def refGo (w y1 y2 a b : Nat) (x : Rat) : Nat → Nat → Nat → Nat → Nat → Nat → Option (Nat × Nat × Nat)
  | 0, _, _, _, _, _ => none
  | f + 1, k, t1, t2, s1, s2 =>
    if cdv (cdv (t2 * y2) (2 ^ w) * (a + b + 2 * k)) (a + 2 + 2 * k) ≤ 8 ∧ x * (((4 * (a + b + 2 * k + 2) : Nat) : Int) : Rat) ≤ (((3 * (a + 4 + 2 * k) : Nat) : Int) : Rat) then
      some (s1 + t1 * y1 / 2 ^ w * (a + b + 2 * k) / (a + 2 + 2 * k), s2 + cdv (cdv (t2 * y2) (2 ^ w) * (a + b + 2 * k)) (a + 2 + 2 * k), k + 1)
    else refGo w y1 y2 a b x f (k + 1) (t1 * y1 / 2 ^ w * (a + b + 2 * k) / (a + 2 + 2 * k)) (cdv (cdv (t2 * y2) (2 ^ w) * (a + b + 2 * k)) (a + 2 + 2 * k))
      (s1 + t1 * y1 / 2 ^ w * (a + b + 2 * k) / (a + 2 + 2 * k)) (s2 + cdv (cdv (t2 * y2) (2 ^ w) * (a + b + 2 * k)) (a + 2 + 2 * k))
section
variable {w y1 y2 a b : Nat} {x : Rat}
theorem refGo_enc (hx : Enc w y1 y2 x) : ∀ (f k t1 t2 s1 s2 : Nat) {A B K : Nat}, refGo w y1 y2 a b x f k t1 t2 s1 s2 = some (A, B, K) → Enc w t1 t2 (rR x a b k) → Enc w s1 s2 (sR x a b k) →
    (A : Rat) ≤ sR x a b K * p2 w ∧ sR x a b K * p2 w ≤ (B : Rat) ∧ rR x a b K * p2 w ≤ 8 ∧ x * (((4 * (a + b + 2 * K) : Nat) : Int) : Rat) ≤ (((3 * (a + 2 + 2 * K) : Nat) : Int) : Rat) := by
  intro f
  induction f with
  | zero => intro k t1 t2 s1 s2 A B K h; simp only [refGo] at h; cases h
  | succ f ih =>
    intro k t1 t2 s1 s2 A B K h ht hs
    have e1 := enc_prodN ht hx
    have e2 := enc_byN (n := a + b + 2 * k) (m := a + 2 + 2 * k) (by omega) e1
    have e3 : Enc w _ _ (rR x a b (k + 1)) := e2
    have e4 : Enc w _ _ (sR x a b (k + 1)) := enc_add hs e3
    rw [refGo] at h
    by_cases c : cdv (cdv (t2 * y2) (2 ^ w) * (a + b + 2 * k)) (a + 2 + 2 * k) ≤ 8 ∧ x * (((4 * (a + b + 2 * k + 2) : Nat) : Int) : Rat) ≤ (((3 * (a + 4 + 2 * k) : Nat) : Int) : Rat)
    · rw [if_pos c] at h
      simp only [Option.some.injEq, Prod.mk.injEq] at h
      obtain ⟨rfl, rfl, rfl⟩ := h
      refine ⟨e4.1, e4.2, ?_, ?_⟩
      · refine Rat.le_trans e3.2 ?_
        have := nat_le_rat c.1
        exact this
      · rw [show a + b + 2 * (k + 1) = a + b + 2 * k + 2 by omega, show a + 2 + 2 * (k + 1) = a + 4 + 2 * k by omega]
        exact c.2
    · rw [if_neg c] at h
      exact ih _ _ _ _ _ h e3 e4
theorem step_half {t : Nat} (hy : 2 * y2 ≤ 2 ^ w) : 2 * cdv (t * y2) (2 ^ w) ≤ t + 1 := by
  have P : 0 < 2 ^ w := Nat.pow_pos (by omega)
  have h : cdv (t * y2) (2 ^ w) ≤ (t + 1) / 2 := by
    refine cdv_le P ?_
    have h1 : t * (2 * y2) ≤ t * 2 ^ w := Nat.mul_le_mul_left _ hy
    have h2 : t * 2 ^ w ≤ 2 * ((t + 1) / 2) * 2 ^ w := Nat.mul_le_mul_right _ (by omega)
    have e1 : t * (2 * y2) = 2 * (t * y2) := by grind
    have e2 : 2 * ((t + 1) / 2) * 2 ^ w = 2 * ((t + 1) / 2 * 2 ^ w) := by rw [Nat.mul_assoc]
    omega
  omega
theorem step_late {s n m : Nat} (hm : 0 < m) (h : 2 * n ≤ 3 * m) : 2 * cdv (s * n) m ≤ 3 * s + 1 := by
  have h : cdv (s * n) m ≤ (3 * s + 1) / 2 := by
    refine cdv_le hm ?_
    have h1 : s * (2 * n) ≤ s * (3 * m) := Nat.mul_le_mul_left _ h
    have h2 : 3 * s * m ≤ 2 * ((3 * s + 1) / 2) * m := Nat.mul_le_mul_right _ (by omega)
    have e1 : s * (2 * n) = 2 * (s * n) := by grind
    have e2 : s * (3 * m) = 3 * s * m := by grind
    have e3 : 2 * ((3 * s + 1) / 2) * m = 2 * ((3 * s + 1) / 2 * m) := by rw [Nat.mul_assoc]
    omega
  omega
theorem step_early {s n m : Nat} (hm : 0 < m) (h : n ≤ 7 * m) : cdv (s * n) m ≤ 7 * s := by
  refine cdv_le hm ?_
  have h1 : s * n ≤ s * (7 * m) := Nat.mul_le_mul_left _ h
  have e : s * (7 * m) = 7 * s * m := by grind
  omega
/-- What a round keeps. -/
def okR (w b k t1 t2 s1 s2 : Nat) : Prop := t1 ≤ t2 ∧ t2 + 8 ≤ 4 ^ min k b * (2 ^ w + 8) ∧ 2 ^ w ≤ s1 ∧ s1 ≤ s2 ∧ s2 ≤ (k + 1) * (4 ^ b * (2 ^ w + 8))
theorem okR_step {k t1 t2 s1 s2 : Nat} (hP : 16 ≤ 2 ^ w) (h12 : y1 ≤ y2) (hy : 2 * y2 ≤ 2 ^ w) (ha : 1 ≤ a) (hb : b ≤ 20) (h : okR w b k t1 t2 s1 s2) :
    okR w b (k + 1) (t1 * y1 / 2 ^ w * (a + b + 2 * k) / (a + 2 + 2 * k)) (cdv (cdv (t2 * y2) (2 ^ w) * (a + b + 2 * k)) (a + 2 + 2 * k)) (s1 + t1 * y1 / 2 ^ w * (a + b + 2 * k) / (a + 2 + 2 * k)) (s2 + cdv (cdv (t2 * y2) (2 ^ w) * (a + b + 2 * k)) (a + 2 + 2 * k)) := by
  obtain ⟨g1, g2, g3, g4, g5⟩ := h
  have P : 0 < 2 ^ w := Nat.pow_pos (by omega)
  have v12 : t1 * y1 / 2 ^ w ≤ cdv (t2 * y2) (2 ^ w) := div_le_cdv P (Nat.mul_le_mul g1 h12)
  have u12 : t1 * y1 / 2 ^ w * (a + b + 2 * k) / (a + 2 + 2 * k) ≤ cdv (cdv (t2 * y2) (2 ^ w) * (a + b + 2 * k)) (a + 2 + 2 * k) := div_le_cdv (by omega) (Nat.mul_le_mul_right _ v12)
  have sh := step_half (t := t2) hy
  generalize cdv (t2 * y2) (2 ^ w) = s at *
  have key : cdv (s * (a + b + 2 * k)) (a + 2 + 2 * k) + 8 ≤ 4 ^ min (k + 1) b * (2 ^ w + 8) := by
    by_cases hk : b ≤ k
    · rw [Nat.min_eq_right (show b ≤ k + 1 by omega)]
      rw [Nat.min_eq_right hk] at g2
      have := step_late (s := s) (n := a + b + 2 * k) (m := a + 2 + 2 * k) (by omega) (by omega)
      have h16 : 16 ≤ 4 ^ b * (2 ^ w + 8) ∨ t2 + 8 < 16 := by omega
      by_cases ht : 8 ≤ t2
      · omega
      · have h1 : 1 ≤ 4 ^ b := Nat.pow_pos (by omega)
        have h9 : 2 ^ w + 8 ≤ 4 ^ b * (2 ^ w + 8) := Nat.le_mul_of_pos_left _ h1
        omega
    · rw [Nat.min_eq_left (show k + 1 ≤ b by omega), Nat.pow_succ, Nat.mul_comm (4 ^ k) 4, Nat.mul_assoc]
      rw [Nat.min_eq_left (show k ≤ b by omega)] at g2
      have := step_early (s := s) (n := a + b + 2 * k) (m := a + 2 + 2 * k) (by omega) (by omega)
      omega
  have top : 4 ^ min (k + 1) b * (2 ^ w + 8) ≤ 4 ^ b * (2 ^ w + 8) := Nat.mul_le_mul_right _ (Nat.pow_le_pow_right (by omega) (Nat.min_le_right _ _))
  refine ⟨u12, key, Nat.le_trans g3 (Nat.le_add_right _ _), by omega, ?_⟩
  have e : (k + 1 + 1) * (4 ^ b * (2 ^ w + 8)) = (k + 1) * (4 ^ b * (2 ^ w + 8)) + 4 ^ b * (2 ^ w + 8) := by rw [Nat.add_mul (k + 1) 1, Nat.one_mul]
  omega
theorem stop_late (h0 : 0 ≤ x) (h1 : x + x ≤ 1) {k : Nat} (hk : b ≤ k) : x * (((4 * (a + b + 2 * k + 2) : Nat) : Int) : Rat) ≤ (((3 * (a + 4 + 2 * k) : Nat) : Int) : Rat) := by
  have c1 : (((4 * (a + b + 2 * k + 2) : Nat) : Int) : Rat) = 2 * ((2 * (a + b + 2 * k + 2) : Nat) : Rat) := by
    have c0 : (((4 * (a + b + 2 * k + 2) : Nat) : Int) : Rat) = ((4 * (a + b + 2 * k + 2) : Nat) : Rat) := rfl
    rw [c0, show 4 * (a + b + 2 * k + 2) = 2 * (2 * (a + b + 2 * k + 2)) by omega]
    exact_mod_cast rfl
  have c2 : (((3 * (a + 4 + 2 * k) : Nat) : Int) : Rat) = ((3 * (a + 4 + 2 * k) : Nat) : Rat) := rfl
  have h2 : ((2 * (a + b + 2 * k + 2) : Nat) : Rat) ≤ ((3 * (a + 4 + 2 * k) : Nat) : Rat) := nat_le_rat (by omega)
  have n0 := nat_nonneg (2 * (a + b + 2 * k + 2))
  rw [c1, c2]
  generalize ((2 * (a + b + 2 * k + 2) : Nat) : Rat) = n at *
  generalize ((3 * (a + 4 + 2 * k) : Nat) : Rat) = m at *
  have := Rat.mul_le_mul_of_nonneg_right h1 n0
  grind
theorem ref_late (h0 : 0 ≤ x) (h1 : x + x ≤ 1) (hy : 2 * y2 ≤ 2 ^ w) : ∀ (f k t1 t2 s1 s2 : Nat), b ≤ k → 3 ^ f * (t2 - 8) < 4 ^ f → ∃ A B K, refGo w y1 y2 a b x (f + 1) k t1 t2 s1 s2 = some (A, B, K) := by
  intro f
  induction f with
  | zero =>
    intro k t1 t2 s1 s2 hk h
    have sh := step_half (t := t2) hy
    have := step_late (s := cdv (t2 * y2) (2 ^ w)) (n := a + b + 2 * k) (m := a + 2 + 2 * k) (by omega) (by omega)
    rw [refGo, if_pos ⟨by simp at h; omega, stop_late h0 h1 hk⟩]
    exact ⟨_, _, _, rfl⟩
  | succ f ih =>
    intro k t1 t2 s1 s2 hk h
    have sh := step_half (t := t2) hy
    have st := step_late (s := cdv (t2 * y2) (2 ^ w)) (n := a + b + 2 * k) (m := a + 2 + 2 * k) (by omega) (by omega)
    rw [refGo]
    by_cases c : cdv (cdv (t2 * y2) (2 ^ w) * (a + b + 2 * k)) (a + 2 + 2 * k) ≤ 8
    · rw [if_pos ⟨c, stop_late h0 h1 hk⟩]
      exact ⟨_, _, _, rfl⟩
    · rw [if_neg (fun g => c g.1)]
      refine ih _ _ _ _ _ (by omega) ?_
      generalize cdv (cdv (t2 * y2) (2 ^ w) * (a + b + 2 * k)) (a + 2 + 2 * k) = u at *
      have d : 4 * (u - 8) ≤ 3 * (t2 - 8) := by omega
      have d2 := Nat.mul_le_mul_left (3 ^ f) d
      rw [Nat.pow_succ, Nat.pow_succ] at h
      have e1 : 3 ^ f * (4 * (u - 8)) = 4 * (3 ^ f * (u - 8)) := by grind
      have e2 : 3 ^ f * (3 * (t2 - 8)) = 3 ^ f * 3 * (t2 - 8) := by grind
      omega
theorem ref_early (hP : 16 ≤ 2 ^ w) (h0 : 0 ≤ x) (h1 : x + x ≤ 1) (h12 : y1 ≤ y2) (hy : 2 * y2 ≤ 2 ^ w) (ha : 1 ≤ a) (hb : b ≤ 20) {F : Nat} (hF : 3 ^ F * (4 ^ b * (2 ^ w + 8)) < 4 ^ F) :
    ∀ (j k t1 t2 s1 s2 : Nat), k + j = b → okR w b k t1 t2 s1 s2 → ∃ A B K, refGo w y1 y2 a b x (j + (F + 1)) k t1 t2 s1 s2 = some (A, B, K) := by
  intro j
  induction j with
  | zero =>
    intro k t1 t2 s1 s2 hk h
    rw [Nat.zero_add]
    refine ref_late h0 h1 hy F k t1 t2 s1 s2 (by omega) (Nat.lt_of_le_of_lt (Nat.mul_le_mul_left _ ?_) hF)
    have := h.2.1
    rw [Nat.min_eq_right (by omega)] at this
    omega
  | succ j ih =>
    intro k t1 t2 s1 s2 hk h
    rw [show j + 1 + (F + 1) = (j + (F + 1)) + 1 by omega, refGo]
    by_cases c : cdv (cdv (t2 * y2) (2 ^ w) * (a + b + 2 * k)) (a + 2 + 2 * k) ≤ 8 ∧ x * (((4 * (a + b + 2 * k + 2) : Nat) : Int) : Rat) ≤ (((3 * (a + 4 + 2 * k) : Nat) : Int) : Rat)
    · rw [if_pos c]
      exact ⟨_, _, _, rfl⟩
    · rw [if_neg c]
      exact ih _ _ _ _ _ (by omega) (okR_step hP h12 hy ha hb h)
theorem refGo_ok (hP : 16 ≤ 2 ^ w) (h12 : y1 ≤ y2) (hy : 2 * y2 ≤ 2 ^ w) (ha : 1 ≤ a) (hb : b ≤ 20) : ∀ (f k t1 t2 s1 s2 : Nat) {A B K : Nat}, refGo w y1 y2 a b x f k t1 t2 s1 s2 = some (A, B, K) → okR w b k t1 t2 s1 s2 → K ≤ k + f ∧ 2 ^ w ≤ A ∧ A ≤ B ∧ B ≤ (K + 1) * (4 ^ b * (2 ^ w + 8)) := by
  intro f
  induction f with
  | zero => intro k t1 t2 s1 s2 A B K h; simp only [refGo] at h; cases h
  | succ f ih =>
    intro k t1 t2 s1 s2 A B K h ho
    have st := okR_step hP h12 hy ha hb ho
    rw [refGo] at h
    by_cases c : cdv (cdv (t2 * y2) (2 ^ w) * (a + b + 2 * k)) (a + 2 + 2 * k) ≤ 8 ∧ x * (((4 * (a + b + 2 * k + 2) : Nat) : Int) : Rat) ≤ (((3 * (a + 4 + 2 * k) : Nat) : Int) : Rat)
    · rw [if_pos c] at h
      simp only [Option.some.injEq, Prod.mk.injEq] at h
      obtain ⟨rfl, rfl, rfl⟩ := h
      exact ⟨by omega, st.2.2.1, st.2.2.2.1, st.2.2.2.2⟩
    · rw [if_neg c] at h
      have := ih _ _ _ _ _ h st
      exact ⟨by omega, this.2⟩
theorem ref4_SumNN {a b c d : Nat} (ha : (lim a).length ≤ 100000) (hb : (lim b).length ≤ 100000) (hc : (lim c).length ≤ 100000) (hd : (lim d).length ≤ 100000) : Go.Ev.Fn CX 114 [ivN a b, ivN c d] (ivN (a + c) (b + d)) := by
  have h := ref4_SumN (x := (a : Int)) (y := (b : Int)) (c := c) (d := d) (by rw [Int.natAbs_natCast]; omega) (by rw [Int.natAbs_natCast]; omega) hc hd
  rw [← Int.natCast_add, ← Int.natCast_add, ivN_eq, ivN_eq] at h
  exact h
theorem ref4_WideN {a b n : Nat} (ha : (lim a).length ≤ 100000) (hb : (lim b).length ≤ 100000) (h : n ≤ a) (hn : n < 4294967296) : Go.Ev.Fn CX 117 [ivN a b, .int .i64 (n : Int)] (ivN (a - n) (b + n)) := by
  have w := ref4_Wide (a := (a : Int)) (b := (b : Int)) (by rw [Int.natAbs_natCast]; omega) (by rw [Int.natAbs_natCast]; omega) (n : Int) (by omega)
  rw [show (a : Int) - (n : Int) = ((a - n : Nat) : Int) by omega, ← Int.natCast_add, ivN_eq, ivN_eq] at w
  exact w
theorem ref4_MostN8 {b : Nat} (hb : (lim b).length ≤ 100000) : Go.Ev.Fn CX 106 [intN b, intN 8] (.int .i64 (cmpZ b 8)) := ref4_CmpN hb (by have : (lim 8).length ≤ 1 := lim_len_one (by decide); omega)
set_option maxHeartbeats 1000000 in
theorem ref12_row {v : SV} {L : Nat} (hv : RatA v x L) (hL1 : 1 ≤ L) (hL : L ≤ 10) (ha : 1 ≤ a) (ha2 : a ≤ 20) (hb : 1 ≤ b) (hb2 : b ≤ 20) (h0 : 0 ≤ x) (h1 : x + x ≤ 1) (hw0 : 60 ≤ w) (hw : w ≤ 500) :
    ∃ A B K : Nat, Go.Ev.Fn CX 73 [.int .i64 (a : Int), .int .i64 (b : Int), v, .int .i64 (w : Int)] (ivN A B) ∧ A ≤ B ∧ B ≤ 2 ^ (w + 60) ∧
      (A : Rat) ≤ sR x a b K * p2 w ∧ (sR x a b K + 3 * rR x a b K) * p2 w ≤ (B : Rat) ∧ x * (((4 * (a + b + 2 * K) : Nat) : Int) : Rat) ≤ (((3 * (a + 2 + 2 * K) : Nat) : Int) : Rat) := by
  have nb := ref4_NumN (w := w) hv hL1 (by omega) (by omega) h0
  have n1 := ref4_NumN (w := w) (RatA_rv (one_szR')) (by omega) (by omega) (by omega) (show (0 : Rat) ≤ 1 by decide)
  have u1 : unN 1 w = 2 ^ w := by show 1 * 2 ^ w / 1 = _; rw [Nat.one_mul, Nat.div_one]
  have u2 : upN 1 w = 2 ^ w := by show cdv (1 * 2 ^ w) 1 = _; unfold cdv; rw [Nat.one_mul, Nat.div_one]; omega
  rw [u1, u2] at n1
  have i1 := ref2_Int 1 (by omega)
  rw [show ((1 : Int) : Rat) = 1 from rfl] at i1
  have en := num_enc h0 w
  have y12 := un_up (q := x) w
  have yT := upN_one (w := w) h0 (show x ≤ 1 by grind)
  have yH := upN_half (w := w) h0 h1 (by omega)
  have hP : 2 ^ 60 ≤ 2 ^ w := Nat.pow_le_pow_right (n := 2) (by omega) hw0
  have hP16 : 16 ≤ 2 ^ w := by omega
  have ok : okR w b 0 (2 ^ w) (2 ^ w) (2 ^ w) (2 ^ w) := by
    unfold okR
    rw [Nat.zero_min, Nat.pow_zero, Nat.one_mul, Nat.zero_add, Nat.one_mul]
    have h1 : 1 ≤ 4 ^ b := Nat.pow_pos (by omega)
    have h9 : 2 ^ w + 8 ≤ 4 ^ b * (2 ^ w + 8) := Nat.le_mul_of_pos_left _ h1
    exact ⟨by omega, by omega, by omega, by omega, by omega⟩
  have h40 : 4 ^ b * (2 ^ w + 8) ≤ 2 ^ (w + 41) := by
    have a1 : 4 ^ b ≤ 4 ^ 20 := Nat.pow_le_pow_right (by omega) hb2
    have a2 : 2 ^ (w + 41) = 4 ^ 20 * (2 ^ w * 2) := by rw [show w + 41 = 40 + (w + 1) by omega, Nat.pow_add 2 40, Nat.pow_add 2 w 1]
    rw [a2]
    exact Nat.mul_le_mul a1 (by omega)
  have hF : 3 ^ 1400 * (4 ^ b * (2 ^ w + 8)) < 4 ^ 1400 := by
    obtain ⟨E, hE⟩ : ∃ E : Nat, E = 541 := ⟨_, rfl⟩
    have h49 : 4 ^ b * (2 ^ w + 8) ≤ 2 ^ E := Nat.le_trans h40 (Nat.pow_le_pow_right (by omega) (by omega))
    obtain ⟨N4, hN4⟩ : ∃ N, N = 4 ^ 1400 := ⟨_, rfl⟩
    obtain ⟨N3, hN3⟩ : ∃ N, N = 3 ^ 1400 := ⟨_, rfl⟩
    rw [← hN4, ← hN3]
    have hk : N3 * 2 ^ E < N4 := by rw [hN3, hN4, hE]; decide +kernel
    exact Nat.lt_of_le_of_lt (Nat.mul_le_mul_left _ h49) hk
  obtain ⟨A, B, K, hg⟩ := ref_early (x := x) (a := a) (F := 1400) hP16 h0 h1 y12 yH ha hb2 hF b 0 (2 ^ w) (2 ^ w) (2 ^ w) (2 ^ w) (by omega) ok
  obtain ⟨k0, k1, k2, k3⟩ := refGo_ok hP16 y12 yH ha hb2 _ _ _ _ _ _ hg ok
  have one : Enc w (2 ^ w) (2 ^ w) 1 := ⟨by rw [Rat.one_mul]; exact Rat.le_refl, by rw [Rat.one_mul]; exact Rat.le_refl⟩
  obtain ⟨e1, e2, e3, e4⟩ := refGo_enc en _ 0 _ _ _ _ hg one one
  have hK : (K + 1) * (4 ^ b * (2 ^ w + 8)) ≤ 2 ^ (w + 52) := by
    have : 2 ^ (w + 52) = 2048 * 2 ^ (w + 41) := by rw [show w + 52 = 11 + (w + 41) by omega, Nat.pow_add 2 11]
    rw [this]
    exact Nat.mul_le_mul (by omega) h40
  have hB : B + 64 ≤ 2 ^ (w + 60) := by
    have : 2 ^ (w + 60) = 256 * 2 ^ (w + 52) := by rw [show w + 60 = 8 + (w + 52) by omega, Nat.pow_add 2 8]
    have : 1 ≤ 2 ^ (w + 52) := Nat.pow_pos (by omega)
    omega
  clear hF
  have hP64 : 64 ≤ 2 ^ w := by omega
  refine ⟨A - 64, B + 64, K, ?_, by omega, hB, ?_, ?_, e4⟩
  rotate_left
  · have : ((A - 64 : Nat) : Rat) ≤ (A : Rat) := nat_le_rat (by omega)
    exact Rat.le_trans this e1
  · have : ((B + 64 : Nat) : Rat) = (B : Rat) + 64 := by exact_mod_cast rfl
    rw [this]
    grind
  have lens := fun (k t1 t2 s1 s2 : Nat) (hk : k ≤ 1500) (h : okR w b k t1 t2 s1 s2) => (show (lim t1).length ≤ 40 ∧ (lim t2).length ≤ 40 ∧ (lim s1).length ≤ 40 ∧ (lim s2).length ≤ 40 from by
    obtain ⟨q1, q2, q3, q4, q5⟩ := h
    have top : 4 ^ min k b * (2 ^ w + 8) ≤ 4 ^ b * (2 ^ w + 8) := Nat.mul_le_mul_right _ (Nat.pow_le_pow_right (by omega) (Nat.min_le_right _ _))
    have b1 : (k + 1) * (4 ^ b * (2 ^ w + 8)) ≤ 2048 * 2 ^ (w + 41) := Nat.mul_le_mul (by omega) h40
    have b2 : 2048 * 2 ^ (w + 41) = 2 ^ (w + 52) := by rw [show w + 52 = 11 + (w + 41) by omega, Nat.pow_add 2 11]
    have b3 : 2 ^ (w + 41) ≤ 2 ^ (w + 52) := Nat.pow_le_pow_right (by omega) (by omega)
    exact ⟨lim_len_p2 (w := w + 52) (by omega) (by omega), lim_len_p2 (w := w + 52) (by omega) (by omega), lim_len_p2 (w := w + 52) (by omega) (by omega), lim_len_p2 (w := w + 52) (by omega) (by omega)⟩)
  have step := fun (k t1 t2 s1 s2 : Nat) (h : okR w b k t1 t2 s1 s2) => okR_step (a := a) hP16 y12 yH ha hb2 h
  have ly2 := lim_len_p2 yT (by omega)
  have w8 := ref4_Whole 8 (by omega)
  rw [show (8 : Int) = ((8 : Nat) : Int) from rfl, intN_eq] at w8
  have zx := szR_of hv hL1
  clear u1 u2 en yH hP one e1 e2 e3 e4 h40 hK hB
  generalize unN x w = y1 at *
  generalize upN x w = y2 at *
  obtain ⟨s0, n0, d0, rfl, hv2⟩ := hv
  refine Go.Ev.Fn.intro (fn := Tryz.f73) (body := (Tryz.f73).body.get!) (by kernel_rfl) (by kernel_rfl) (by kernel_rfl) (fun _ => rfl) (Nat.le_of_ble_eq_true (by kernel_rfl)) ?_; unfold Tryz.f73; simp only [Option.get!_some]
  repeat (first | (simp only [go_sem, Nat.reduceEqDiff, Nat.reduceAdd, Nat.reduceSub, Nat.reduceMul, Nat.reduceLeDiff, Nat.reduceLT, reduceIte, reduceCtorEq, Nat.succ_ne_zero, elemsC, Int.reduceToNat, Nat.reducePow]) | (simp (disch := (first | omega | (simp only [AL, List.length_map]; omega))) only [AR, AL, ifT, ifF, take_all, List.length_cons, List.length_nil, Int.reduceToNat, Int.reducePow, Nat.reducePow]) | (refine wk_intro (by kernel_rfl) ?_) | (refine vp_draw (id := 3) (l := []) (by kernel_rfl) ?_) | (refine vp_draw (id := 8) (l := []) (by kernel_rfl) ?_) | (refine vp_draw (id := 9) (l := []) (by kernel_rfl) ?_) | (refine vf_of (by first | exact nb | exact i1 | exact n1) ?_))
  refine vp_loop_inv (fun s => s.tmp 0 = .sv (.int .i64 (a : Int)) ∧ s.tmp 1 = .sv (.int .i64 (b : Int)) ∧ s.tmp 3 = .sv (.int .i64 (w : Int)) ∧ s.tmp 6 = .ptr 6 0 0 ∧ s.obj 6 0 = some [.bool s0, natV n0, natV d0] ∧ s.tmp 8 = .ptr 8 0 0 ∧ s.obj 8 0 = some [.bool false, .sl 0 [], .bool false, .sl 0 []] ∧
      s.tmp 9 = .ptr 9 0 0 ∧ s.obj 9 0 = some [.bool false, natV (lim y1), .bool false, natV (lim y2)] ∧ s.tmp 11 = .ptr 11 0 0 ∧ s.tmp 12 = .ptr 12 0 0 ∧
      ∃ f k t1 t2 s1 s2 : Nat, s.tmp 13 = .sv (.int .i64 (k : Int)) ∧ f + k = b + 1401 ∧ refGo w y1 y2 a b x f k t1 t2 s1 s2 = some (A, B, K) ∧ s.obj 11 0 = some [.bool false, natV (lim s1), .bool false, natV (lim s2)] ∧ s.obj 12 0 = some [.bool false, natV (lim t1), .bool false, natV (lim t2)] ∧ okR w b k t1 t2 s1 s2)
    (fun s => match s.tmp 13 with | .sv (.int _ i) => b + 1402 - i.toNat | _ => 0) ⟨rfl, rfl, rfl, rfl, rfl, rfl, rfl, rfl, rfl, rfl, rfl, _, 0, _, _, _, _, rfl, by omega, hg, rfl, rfl, ok⟩ ?_
  rintro s ⟨i0, i1, i3, i6, o6, i8, o8, i9, o9, i11, i12, f, k, t1, t2, s1, s2, i13, hfk, hgo, o11, o12, hok⟩
  obtain ⟨lt1, lt2, la1, la2⟩ := lens k t1 t2 s1 s2 (by omega) hok
  have st := step k t1 t2 s1 s2 hok
  cases f with
  | zero => simp only [refGo] at hgo; cases hgo
  | succ f =>
    obtain ⟨lu1, lu2, lb1, lb2⟩ := lens (k + 1) _ _ _ _ (by omega) st
    have pr := ref4_ProdN (a := t1) (b := t2) (c := y1) (d := y2) (w := w) hok.1 y12 (by omega) (by omega) (by omega) (by omega)
    have P : 0 < 2 ^ w := Nat.pow_pos (by omega)
    have v12 : t1 * y1 / 2 ^ w ≤ cdv (t2 * y2) (2 ^ w) := div_le_cdv P (Nat.mul_le_mul hok.1 y12)
    have v2 : cdv (t2 * y2) (2 ^ w) ≤ t2 := cdv_le P (Nat.mul_le_mul_left _ yT)
    have lv2 := lim_len_mono v2
    have lv1 := lim_len_mono v12
    have lq1 : (lim (a + b + 2 * k)).length ≤ 1 := lim_len_one (by omega)
    have z1 := lim_len_mul (a := t1 * y1 / 2 ^ w) (b := a + b + 2 * k)
    have z2 := lim_len_mul (a := cdv (t2 * y2) (2 ^ w)) (b := a + b + 2 * k)
    have of := ref4_OftenN (a := t1 * y1 / 2 ^ w) (b := cdv (t2 * y2) (2 ^ w)) (n := a + b + 2 * k) (by omega) (by omega) (by omega)
    have by1 := ref4_ByN (a := t1 * y1 / 2 ^ w * (a + b + 2 * k)) (b := cdv (t2 * y2) (2 ^ w) * (a + b + 2 * k)) (n := a + 2 + 2 * k) (by omega) (by omega) (by omega) (by omega)
    have u12 := st.1
    rw [refGo] at hgo
    generalize t1 * y1 / 2 ^ w = v1 at *
    generalize cdv (t2 * y2) (2 ^ w) = v2' at *
    generalize v1 * (a + b + 2 * k) / (a + 2 + 2 * k) = u1 at *
    generalize cdv (v2' * (a + b + 2 * k)) (a + 2 + 2 * k) = u2 at *
    have sm := ref4_SumNN (a := s1) (b := s2) (c := u1) (d := u2) (by omega) (by omega) (by omega) (by omega)
    have mo := ref4_MostN (a := u1) (b := u2) u12 (by omega)
    have cc := ref4_MostN8 (b := u2) (by omega)
    have ec : decide (cmpZ ((u2 : Nat) : Int) ((8 : Nat) : Int) ≤ 0) = decide (u2 ≤ 8) := by rw [cmpZ_le]; exact decide_eq_decide.2 (by omega)
    generalize cmpZ ((u2 : Nat) : Int) ((8 : Nat) : Int) = z at *
    have j1 := ref2_Int ((4 * (a + b + 2 * k + 2) : Nat) : Int) (by omega)
    have mu := ref2_Mul (show RatA (ratV s0 n0 d0) x L from ⟨s0, n0, d0, rfl, hv2⟩) (RatA_rv (int_szR (n := ((4 * (a + b + 2 * k + 2) : Nat) : Int)) (by omega))) (by omega) (by omega) (by omega)
    have zm := szR_mul zx (int_szR (n := ((4 * (a + b + 2 * k + 2) : Nat) : Int)) (by omega)) (by omega)
    have j2 := ref2_Int ((3 * (a + 4 + 2 * k) : Nat) : Int) (by omega)
    have cm := ref2_Cmp (RatA_rv zm) (RatA_rv (int_szR (n := ((3 * (a + 4 + 2 * k) : Nat) : Int)) (by omega))) (by omega) (by omega) (by omega)
    have ex : decide (cmpR (x * (((4 * (a + b + 2 * k + 2) : Nat) : Int) : Rat)) (((3 * (a + 4 + 2 * k) : Nat) : Int) : Rat) ≤ 0) = decide (x * (((4 * (a + b + 2 * k + 2) : Nat) : Int) : Rat) ≤ (((3 * (a + 4 + 2 * k) : Nat) : Int) : Rat)) := cmpR_le
    generalize cmpR (x * (((4 * (a + b + 2 * k + 2) : Nat) : Int) : Rat)) (((3 * (a + 4 + 2 * k) : Nat) : Int) : Rat) = zc at *
    generalize hX1 : x * (((4 * (a + b + 2 * k + 2) : Nat) : Int) : Rat) = X1 at *
    generalize hX2 : ((4 * (a + b + 2 * k + 2) : Nat) : Int) = N1 at *
    generalize hX3 : ((3 * (a + 4 + 2 * k) : Nat) : Int) = N2 at *
    have wd := ref4_WideN (a := s1 + u1) (b := s2 + u2) (n := 64) (by omega) (by omega) (by have := st.2.2.1; omega) (by omega)
    generalize hR1 : (N1 : Rat) = N1R at *
    generalize hR2 : (N2 : Rat) = N2R at *
    rw [← hX2, show ((4 * (a + b + 2 * k + 2) : Nat) : Int) = 4 * ((a : Int) + (b : Int) + 2 * (k : Int) + 2) by omega] at j1
    rw [← hX3, show ((3 * (a + 4 + 2 * k) : Nat) : Int) = 3 * ((a : Int) + 4 + 2 * (k : Int)) by omega] at j2
    clear lens step hg hX1 hX2 hX3 hR1 hR2 v12 u12 z1 z2
    rw [show ((a + b + 2 * k : Nat) : Int) = (a : Int) + (b : Int) + 2 * (k : Int) by omega] at of
    rw [show ((a + 2 + 2 * k : Nat) : Int) = (a : Int) + 2 + 2 * (k : Int) by omega] at by1
    by_cases hu : u2 ≤ 8
    · rw [decide_eq_true hu] at ec
      by_cases hx : X1 ≤ N2R
      · rw [decide_eq_true hx] at ex
        rw [if_pos ⟨hu, hx⟩] at hgo
        simp only [Option.some.injEq, Prod.mk.injEq] at hgo
        obtain ⟨rfl, rfl, rfl⟩ := hgo
        repeat (first | (simp only [go_sem, Nat.reduceEqDiff, Nat.reduceAdd, Nat.reduceSub, Nat.reduceMul, Nat.reduceLeDiff, Nat.reduceLT, reduceIte, reduceCtorEq, Nat.succ_ne_zero, elemsC, Int.reduceToNat, Nat.reducePow, i0, i1, i3, i6, o6, i8, o8, i9, o9, i11, i12, i13, o11, o12, ec, ex]) | (simp (disch := (first | omega | (simp only [AL, List.length_map]; omega))) only [AR, AL, ifT, ifF, take_all, List.length_cons, List.length_nil, Int.reduceToNat, Int.reducePow, Nat.reducePow, i0, i1, i3, i6, o6, i8, o8, i9, o9, i11, i12, i13, o11, o12, ec, ex]) | (refine wk_intro (by kernel_rfl) ?_) | (refine vp_draw (id := 3) (l := []) (by kernel_rfl) ?_) | (refine vp_draw (id := 8) (l := []) (by kernel_rfl) ?_) | (refine vp_draw (id := 9) (l := []) (by kernel_rfl) ?_) | (refine vf_of (by first | exact pr | exact of | exact by1 | exact sm | exact j1 | exact mu | exact mo | exact w8 | exact cc | exact j2 | exact cm | exact wd) ?_))
      · rw [decide_eq_false hx] at ex
        rw [if_neg (fun h => hx h.2)] at hgo
        repeat (first | (simp only [go_sem, Nat.reduceEqDiff, Nat.reduceAdd, Nat.reduceSub, Nat.reduceMul, Nat.reduceLeDiff, Nat.reduceLT, reduceIte, reduceCtorEq, Nat.succ_ne_zero, elemsC, Int.reduceToNat, Nat.reducePow, i0, i1, i3, i6, o6, i8, o8, i9, o9, i11, i12, i13, o11, o12, ec, ex]) | (simp (disch := (first | omega | (simp only [AL, List.length_map]; omega))) only [AR, AL, ifT, ifF, take_all, List.length_cons, List.length_nil, Int.reduceToNat, Int.reducePow, Nat.reducePow, i0, i1, i3, i6, o6, i8, o8, i9, o9, i11, i12, i13, o11, o12, ec, ex]) | (refine wk_intro (by kernel_rfl) ?_) | (refine vp_draw (id := 3) (l := []) (by kernel_rfl) ?_) | (refine vp_draw (id := 8) (l := []) (by kernel_rfl) ?_) | (refine vp_draw (id := 9) (l := []) (by kernel_rfl) ?_) | (refine vf_of (by first | exact pr | exact of | exact by1 | exact sm | exact j1 | exact mu | exact mo | exact w8 | exact cc | exact j2 | exact cm) ?_))
        exact ⟨⟨f, k + 1, u1, u2, s1 + u1, s2 + u2, rfl, by omega, hgo, rfl, rfl, st⟩, by omega⟩
    · rw [decide_eq_false hu] at ec
      rw [if_neg (fun h => hu h.1)] at hgo
      repeat (first | (simp only [go_sem, Nat.reduceEqDiff, Nat.reduceAdd, Nat.reduceSub, Nat.reduceMul, Nat.reduceLeDiff, Nat.reduceLT, reduceIte, reduceCtorEq, Nat.succ_ne_zero, elemsC, Int.reduceToNat, Nat.reducePow, i0, i1, i3, i6, o6, i8, o8, i9, o9, i11, i12, i13, o11, o12, ec]) | (simp (disch := (first | omega | (simp only [AL, List.length_map]; omega))) only [AR, AL, ifT, ifF, take_all, List.length_cons, List.length_nil, Int.reduceToNat, Int.reducePow, Nat.reducePow, i0, i1, i3, i6, o6, i8, o8, i9, o9, i11, i12, i13, o11, o12, ec]) | (refine wk_intro (by kernel_rfl) ?_) | (refine vp_draw (id := 3) (l := []) (by kernel_rfl) ?_) | (refine vp_draw (id := 8) (l := []) (by kernel_rfl) ?_) | (refine vp_draw (id := 9) (l := []) (by kernel_rfl) ?_) | (refine vf_of (by first | exact pr | exact of | exact by1 | exact sm | exact j1 | exact mu | exact mo | exact w8 | exact cc) ?_))
      exact ⟨⟨f, k + 1, u1, u2, s1 + u1, s2 + u2, rfl, by omega, hgo, rfl, rfl, st⟩, by omega⟩
end
end Go.Proofs.YtigiblhmhmgagaaGreat

/- The document's gamma, beta, ways (vernierref9); vernierlaw9.GamTells, in the evaluator. -/
namespace Go.Proofs.YtigiblhmhmgagaaGreat
set_option linter.unusedSimpArgs false
set_option linter.unusedVariables false
set_option maxRecDepth 8000
open Go.Ev
theorem ref9_product (a b c : Nat) (to : Int) (ha : 1 ≤ a) (hb : 1 ≤ b) (h1 : c = 0 ∨ ((a + (c - 1) * b : Nat) : Int) ≤ to) (h2 : to < ((a + c * b : Nat) : Int)) (hto : to ≤ 1073741824) (hto0 : -9223372036854775808 ≤ to) (hc : c ≤ 1048576) (hab : a ≤ 1073741824) (hbb : b ≤ 1073741824) :
    Go.Ev.Fn CX 136 [.int .i64 (a : Int), .int .i64 to, .int .i64 (b : Int)] (natV (lim (prodN a b c))) := by
  have hle : ∀ i, i < c → ((a + i * b : Nat) : Int) ≤ to := by
    intro i hi
    rcases h1 with h | h
    · omega
    · have : i * b ≤ (c - 1) * b := Nat.mul_le_mul_right _ (by omega)
      omega
  have hlen : ∀ i, i ≤ c → (lim (prodN a b i)).length ≤ i + 1 := fun i hi => prodN_len fun j hj => by have := hle j (by omega); omega
  refine Go.Ev.Fn.intro (fn := Tryz.f136) (body := (Tryz.f136).body.get!) (by kernel_rfl) (by kernel_rfl) (by kernel_rfl) (fun _ => rfl) (Nat.le_of_ble_eq_true (by kernel_rfl)) ?_; unfold Tryz.f136; simp only [Option.get!_some]
  repeat (first | (simp only [go_sem, Nat.reduceEqDiff, Nat.reduceAdd, Nat.reduceSub, Nat.reduceMul, Nat.reduceLeDiff, Nat.reduceLT, reduceIte, reduceCtorEq, Nat.succ_ne_zero, elemsC, Int.reduceToNat, Nat.reducePow]) | (simp (disch := (first | omega | (simp only [AL, List.length_map]; omega))) only [AR, AL, ifT, ifF, take_all, List.length_cons, List.length_nil, Int.reduceToNat, Int.reducePow, Nat.reducePow]) | (refine wk_intro (by kernel_rfl) ?_))
  refine vp_loop_inv (fun s => s.tmp 1 = .sv (.int .i64 to) ∧ s.tmp 2 = .sv (.int .i64 (b : Int)) ∧ ∃ i : Nat, s.tmp 8 = .sv (.int .i64 ((a + i * b : Nat) : Int)) ∧ RowL s 7 9 (prodN a b i) ∧ i ≤ c)
    (fun s => match s.tmp 8 with | .sv (.int _ n) => (to + 1 - n).toNat | _ => 0) ⟨rfl, rfl, 0, by rw [Nat.zero_mul, Nat.add_zero]; rfl, .inr ⟨rfl, rfl, rfl⟩, by omega⟩ ?_
  rintro s ⟨i1, i2, i, i8, hR, hi⟩
  by_cases hend : i = c
  · subst hend
    have hlt : ¬ ((a + i * b : Nat) : Int) ≤ to := by omega
    rcases hR with i7 | ⟨hv, i7, iO⟩
    · repeat (first | (simp only [go_sem, Nat.reduceEqDiff, Nat.reduceAdd, Nat.reduceSub, Nat.reduceMul, Nat.reduceLeDiff, Nat.reduceLT, reduceIte, reduceCtorEq, Nat.succ_ne_zero, elemsC, Int.reduceToNat, Nat.reducePow, i1, i2, i8, i7]) | (simp (disch := (first | omega | (simp only [AL, List.length_map]; omega))) only [AR, AL, ifT, ifF, take_all, List.length_cons, List.length_nil, Int.reduceToNat, Int.reducePow, Nat.reducePow, i1, i2, i8, i7]) | (refine wk_intro (by kernel_rfl) ?_))
    · rw [hv, lim_one]
      repeat (first | (simp only [go_sem, Nat.reduceEqDiff, Nat.reduceAdd, Nat.reduceSub, Nat.reduceMul, Nat.reduceLeDiff, Nat.reduceLT, reduceIte, reduceCtorEq, Nat.succ_ne_zero, elemsC, Int.reduceToNat, Nat.reducePow, i1, i2, i8, i7]) | (simp (disch := (first | omega | (simp only [AL, List.length_map]; omega))) only [AR, AL, ifT, ifF, take_all, List.length_cons, List.length_nil, Int.reduceToNat, Int.reducePow, Nat.reducePow, i1, i2, i8, i7]) | (refine wk_intro (by kernel_rfl) ?_))
      exact ro_ref (cs := [.int .u32 1]) (by decide) iO rfl
  · have h3 := hle i (by omega)
    have hl := hlen i hi
    have oN := ref1_Of (a + i * b) (by omega)
    have hl2 := lim_len_one (a := a + i * b) (by omega)
    have hn : a + (i + 1) * b = a + i * b + b := by rw [Nat.add_mul, Nat.one_mul, Nat.add_assoc]
    have hnew : prodN a b (i + 1) = prodN a b i * (a + i * b) := rfl
    generalize hv : a + i * b = v at *
    have hM := ref1_MulL (N := prodN a b i) (D := v) (by omega) (by omega)
    rcases hR with i7 | ⟨hv1, i7, iO⟩
    · repeat (first | (simp only [go_sem, Nat.reduceEqDiff, Nat.reduceAdd, Nat.reduceSub, Nat.reduceMul, Nat.reduceLeDiff, Nat.reduceLT, reduceIte, reduceCtorEq, Nat.succ_ne_zero, elemsC, Int.reduceToNat, Nat.reducePow, i1, i2, i8, i7]) | (simp (disch := (first | omega | (simp only [AL, List.length_map]; omega))) only [AR, AL, ifT, ifF, take_all, List.length_cons, List.length_nil, Int.reduceToNat, Int.reducePow, Nat.reducePow, i1, i2, i8, i7]) | (refine wk_intro (by kernel_rfl) ?_))
      repeat (first | (simp only [go_sem, Nat.reduceEqDiff, Nat.reduceAdd, Nat.reduceSub, Nat.reduceMul, Nat.reduceLeDiff, Nat.reduceLT, reduceIte, reduceCtorEq, Nat.succ_ne_zero, elemsC, Int.reduceToNat, Nat.reducePow, i1, i2, i8, i7]) | (simp (disch := (first | omega | (simp only [AL, List.length_map]; omega))) only [AR, AL, ifT, ifF, take_all, List.length_cons, List.length_nil, Int.reduceToNat, Int.reducePow, Nat.reducePow, i1, i2, i8, i7]) | (refine wk_intro (by kernel_rfl) ?_) | (refine vf_of (by first | exact oN | exact hM) ?_))
      refine ⟨⟨i + 1, by rw [hn], .inl (by rw [hnew]; rfl), by omega⟩, by omega⟩
    · rw [hv1, lim_one] at hM
      repeat (first | (simp only [go_sem, Nat.reduceEqDiff, Nat.reduceAdd, Nat.reduceSub, Nat.reduceMul, Nat.reduceLeDiff, Nat.reduceLT, reduceIte, reduceCtorEq, Nat.succ_ne_zero, elemsC, Int.reduceToNat, Nat.reducePow, i1, i2, i8, i7, iO, N0]) | (simp (disch := (first | omega | (simp only [AL, List.length_map]; omega))) only [AR, AL, ifT, ifF, take_all, List.length_cons, List.length_nil, Int.reduceToNat, Int.reducePow, Nat.reducePow, i1, i2, i8, i7, iO, N0]) | (refine wk_intro (by kernel_rfl) ?_) | (refine vf_of (by first | exact oN | exact hM) ?_))
      refine ⟨⟨i + 1, by rw [hn], .inl (by rw [hnew, hv1]; rfl), by omega⟩, by omega⟩
/-- The number whose product of all below it is told. -/
def capN (n : Int) : Nat := (if 512 < n then 512 else n).toNat
theorem fac_len {k : Nat} (h : k ≤ 1048576) : (lim (facN k)).length ≤ k + 1 := prodN_len fun i hi => by omega
theorem ref9_Factorial (n : Int) (hn : -9223372036854775808 ≤ n) : Go.Ev.Fn CX 135 [.int .i64 n] (rv (facN (capN n) : Rat)) := by
  have hcap : capN n ≤ 512 := by unfold capN; split <;> omega
  have hr := ref9_product 1 1 (capN n) (if 512 < n then 512 else n) (by omega) (by omega) (by unfold capN; split <;> omega) (by unfold capN; split <;> omega) (by split <;> omega) (by split <;> omega) (by omega) (by omega) (by omega)
  have hl := fac_len (k := capN n) (by omega)
  have hOf := ref2_OfL (s := false) (n := facN (capN n)) (d := 1) (by omega) (by have := lim_len1; omega)
  rw [show mkRat (sgn false (facN (capN n))) 1 = (facN (capN n) : Rat) from Rat.mkRat_one _, lim_one] at hOf
  refine Go.Ev.Fn.intro (fn := Tryz.f135) (body := (Tryz.f135).body.get!) (by kernel_rfl) (by kernel_rfl) (by kernel_rfl) (fun _ => rfl) (Nat.le_of_ble_eq_true (by kernel_rfl)) ?_; unfold Tryz.f135; simp only [Option.get!_some]
  repeat (first | (simp only [go_sem, Nat.reduceEqDiff, Nat.reduceAdd, Nat.reduceSub, Nat.reduceMul, Nat.reduceLeDiff, Nat.reduceLT, reduceIte, reduceCtorEq, Nat.succ_ne_zero, elemsC, Int.reduceToNat, Nat.reducePow]) | (simp (disch := (first | omega | (simp only [AL, List.length_map]; omega))) only [AR, AL, ifT, ifF, take_all, List.length_cons, List.length_nil, Int.reduceToNat, Int.reducePow, Nat.reducePow]) | (refine wk_intro (by kernel_rfl) ?_) | (refine vf_of (by first | exact hr | exact hOf) ?_))
theorem prod_odd {n : Nat} (h : n % 2 = 1) : prodN 1 2 ((n - 1) / 2) = prodN 3 2 ((n - 3) / 2) := by
  rcases Nat.lt_or_ge n 3 with h1 | h1
  · obtain rfl : n = 1 := by omega
    rfl
  · obtain ⟨k, hk⟩ : ∃ k, (n - 1) / 2 = k + 1 := ⟨(n - 3) / 2, by omega⟩
    rw [hk, prodN_front, Nat.one_mul, show (n - 3) / 2 = k by omega]
theorem ref9_Half (n : Nat) (h1 : 1 ≤ n) (h : n ≤ 512) : Go.Ev.Fn CX 104 [.int .i64 (n : Int)] (.tup [rv (gam2 n), .int .i64 (n % 2 : Nat), .bool true]) := by
  have hu : (n : Int).tmod 2 = ((n % 2 : Nat) : Int) := rfl
  have hd : ((n : Int)).tdiv 2 = ((n / 2 : Nat) : Int) := rfl
  by_cases h0 : n % 2 = 0
  · have hF := ref9_Factorial ((n / 2 - 1 : Nat) : Int) (by omega)
    rw [show capN ((n / 2 - 1 : Nat) : Int) = n / 2 - 1 by unfold capN; rw [if_neg (by omega)]; omega, ← facN_two, show n / 2 - 1 - 1 = n / 2 - 2 by omega] at hF
    rw [show gam2 n = ((prodN 2 1 (n / 2 - 2) : Nat) : Rat) from if_pos h0, h0]
    rw [h0] at hu
    refine Go.Ev.Fn.intro (fn := Tryz.f104) (body := (Tryz.f104).body.get!) (by kernel_rfl) (by kernel_rfl) (by kernel_rfl) (fun _ => rfl) (Nat.le_of_ble_eq_true (by kernel_rfl)) ?_; unfold Tryz.f104; simp only [Option.get!_some]
    repeat (first | (simp only [go_sem, Nat.reduceEqDiff, Nat.reduceAdd, Nat.reduceSub, Nat.reduceMul, Nat.reduceLeDiff, Nat.reduceLT, reduceIte, reduceCtorEq, Nat.succ_ne_zero, elemsC, Int.reduceToNat, Nat.reducePow, hu, hd]) | (simp (disch := (first | omega | (simp only [AL, List.length_map]; omega))) only [AR, AL, ifT, ifF, take_all, List.length_cons, List.length_nil, Int.reduceToNat, Int.reducePow, Nat.reducePow, hu, hd]) | (refine wk_intro (by kernel_rfl) ?_) | (refine vf_of (by first | exact hF) ?_))
    rfl
  · have hr := ref9_product 1 2 ((n - 1) / 2) ((n : Int) - 2) (by omega) (by omega) (by omega) (by omega) (by omega) (by omega) (by omega) (by omega) (by omega)
    have hl := prodN_len (a := 3) (b := 2) (c := (n - 3) / 2) (fun i hi => by omega)
    have h01 : n % 2 = 1 := by omega
    rw [prod_odd h01] at hr
    have hS := ref1_shift_up [1] (n / 2) (by simp [okL]) (by simp) ((n / 2 : Nat) : Int) rfl (by omega)
    rw [show wth [1] = 1 from rfl, Nat.one_mul] at hS
    have hp := pow_len (n / 2)
    have hOf := ref2_OfL (s := false) (n := prodN 3 2 ((n - 3) / 2)) (d := 2 ^ (n / 2)) (by omega) (by omega)
    rw [show gam2 n = mkRat (prodN 3 2 ((n - 3) / 2) : Nat) (2 ^ (n / 2)) from if_neg h0, h01]
    rw [h01] at hu
    refine Go.Ev.Fn.intro (fn := Tryz.f104) (body := (Tryz.f104).body.get!) (by kernel_rfl) (by kernel_rfl) (by kernel_rfl) (fun _ => rfl) (Nat.le_of_ble_eq_true (by kernel_rfl)) ?_; unfold Tryz.f104; simp only [Option.get!_some]
    repeat (first | (simp only [go_sem, Nat.reduceEqDiff, Nat.reduceAdd, Nat.reduceSub, Nat.reduceMul, Nat.reduceLeDiff, Nat.reduceLT, reduceIte, reduceCtorEq, Nat.succ_ne_zero, elemsC, Int.reduceToNat, Nat.reducePow, hu, hd]) | (simp (disch := (first | omega | (simp only [AL, List.length_map]; omega))) only [AR, AL, ifT, ifF, take_all, List.length_cons, List.length_nil, Int.reduceToNat, Int.reducePow, Nat.reducePow, hu, hd]) | (refine wk_intro (by kernel_rfl) ?_) | (refine vf_of (by first | exact hr | exact hS | exact hOf) ?_))
    exact ⟨rfl, rfl⟩
theorem ref9_Half_out (n : Int) (h1 : n < 1 ∨ 512 < n) : Go.Ev.Fn CX 104 [.int .i64 n] (.tup [rv 0, .int .i64 0, .bool false]) := by
  have h0 := ref2_Int 0 (by omega)
  refine Go.Ev.Fn.intro (fn := Tryz.f104) (body := (Tryz.f104).body.get!) (by kernel_rfl) (by kernel_rfl) (by kernel_rfl) (fun _ => rfl) (Nat.le_of_ble_eq_true (by kernel_rfl)) ?_; unfold Tryz.f104; simp only [Option.get!_some]
  by_cases h : n < 1
  · repeat (first | (simp only [go_sem, Nat.reduceEqDiff, Nat.reduceAdd, Nat.reduceSub, Nat.reduceMul, Nat.reduceLeDiff, Nat.reduceLT, reduceIte, reduceCtorEq, Nat.succ_ne_zero, elemsC, Int.reduceToNat, Nat.reducePow]) | (simp (disch := (first | omega | (simp only [AL, List.length_map]; omega))) only [AR, AL, ifT, ifF, take_all, List.length_cons, List.length_nil, Int.reduceToNat, Int.reducePow, Nat.reducePow]) | (refine wk_intro (by kernel_rfl) ?_))
    refine vf_of (h0) ?_; repeat (first | (simp only [go_sem, Nat.reduceEqDiff, Nat.reduceAdd, Nat.reduceSub, Nat.reduceMul, Nat.reduceLeDiff, Nat.reduceLT, reduceIte, reduceCtorEq, Nat.succ_ne_zero, elemsC, Int.reduceToNat, Nat.reducePow]) | (simp (disch := (first | omega | (simp only [AL, List.length_map]; omega))) only [AR, AL, ifT, ifF, take_all, List.length_cons, List.length_nil, Int.reduceToNat, Int.reducePow, Nat.reducePow]) | (refine wk_intro (by kernel_rfl) ?_))
    rfl
  · repeat (first | (simp only [go_sem, Nat.reduceEqDiff, Nat.reduceAdd, Nat.reduceSub, Nat.reduceMul, Nat.reduceLeDiff, Nat.reduceLT, reduceIte, reduceCtorEq, Nat.succ_ne_zero, elemsC, Int.reduceToNat, Nat.reducePow]) | (simp (disch := (first | omega | (simp only [AL, List.length_map]; omega))) only [AR, AL, ifT, ifF, take_all, List.length_cons, List.length_nil, Int.reduceToNat, Int.reducePow, Nat.reducePow]) | (refine wk_intro (by kernel_rfl) ?_))
    refine vf_of (h0) ?_; repeat (first | (simp only [go_sem, Nat.reduceEqDiff, Nat.reduceAdd, Nat.reduceSub, Nat.reduceMul, Nat.reduceLeDiff, Nat.reduceLT, reduceIte, reduceCtorEq, Nat.succ_ne_zero, elemsC, Int.reduceToNat, Nat.reducePow]) | (simp (disch := (first | omega | (simp only [AL, List.length_map]; omega))) only [AR, AL, ifT, ifF, take_all, List.length_cons, List.length_nil, Int.reduceToNat, Int.reducePow, Nat.reducePow]) | (refine wk_intro (by kernel_rfl) ?_))
    rfl
theorem ref9_Beta (a b : Nat) (ha : 1 ≤ a) (ha2 : a ≤ 256) (hb : 1 ≤ b) (hb2 : b ≤ 256) : Go.Ev.Fn CX 65 [.int .i64 (a : Int), .int .i64 (b : Int)] (.tup [rv (beta2 a b), .int .i64 (a % 2 * (b % 2) : Nat), .bool true]) := by
  have g1 := ref9_Half a ha (by omega)
  have g2 := ref9_Half b hb (by omega)
  have g3 := ref9_Half (a + b) (by omega) (by omega)
  have z1 := gam2_size (n := a) (by omega)
  have z2 := gam2_size (n := b) (by omega)
  have z3 := gam2_size (n := a + b) (by omega)
  have m1 := ref2_Mul (RatA_rv z1) (RatA_rv z2) (by omega) (by omega) (by omega)
  have d1 := ref2_Div (RatA_rv (szR_mul z1 z2 (by omega))) (RatA_rv z3) (by omega) (by omega) (by omega)
  rw [decide_eq_true (gam2_pos (n := a + b)), show gam2 a * gam2 b / gam2 (a + b) = beta2 a b from rfl] at d1
  have e1 : ((a % 2 + b % 2 : Nat) : Int).tdiv 2 = ((a % 2 * (b % 2) : Nat) : Int) := by
    rw [show ((a % 2 + b % 2 : Nat) : Int).tdiv 2 = (((a % 2 + b % 2) / 2 : Nat) : Int) from rfl]
    rcases Nat.mod_two_eq_zero_or_one a with ha | ha <;> rcases Nat.mod_two_eq_zero_or_one b with hb | hb <;> rw [ha, hb]
  have hk : a % 2 * (b % 2) ≤ 1 := by
    rcases Nat.mod_two_eq_zero_or_one a with ha | ha <;> rcases Nat.mod_two_eq_zero_or_one b with hb | hb <;> rw [ha, hb] <;> decide
  generalize hx : a % 2 * (b % 2) = x at *
  refine Go.Ev.Fn.intro (fn := Tryz.f65) (body := (Tryz.f65).body.get!) (by kernel_rfl) (by kernel_rfl) (by kernel_rfl) (fun _ => rfl) (Nat.le_of_ble_eq_true (by kernel_rfl)) ?_; unfold Tryz.f65; simp only [Option.get!_some]
  repeat (first | (simp only [go_sem, Nat.reduceEqDiff, Nat.reduceAdd, Nat.reduceSub, Nat.reduceMul, Nat.reduceLeDiff, Nat.reduceLT, reduceIte, reduceCtorEq, Nat.succ_ne_zero, elemsC, Int.reduceToNat, Nat.reducePow, e1]) | (simp (disch := (first | omega | (simp only [AL, List.length_map]; omega))) only [AR, AL, ifT, ifF, take_all, List.length_cons, List.length_nil, Int.reduceToNat, Int.reducePow, Nat.reducePow, e1]) | (refine wk_intro (by kernel_rfl) ?_) | (refine vp_draw (id := 6) (l := []) (by kernel_rfl) ?_) | (refine vf_of (by first | exact g1 | exact g2 | exact g3 | exact m1 | exact d1) ?_))
theorem ref9_Beta_out (a b : Int) (h : a < 1 ∨ 256 < a ∨ b < 1 ∨ 256 < b) : Go.Ev.Fn CX 65 [.int .i64 a, .int .i64 b] (.tup [rv 0, .int .i64 0, .bool false]) := by
  have h0 := ref2_Int 0 (by omega)
  refine Go.Ev.Fn.intro (fn := Tryz.f65) (body := (Tryz.f65).body.get!) (by kernel_rfl) (by kernel_rfl) (by kernel_rfl) (fun _ => rfl) (Nat.le_of_ble_eq_true (by kernel_rfl)) ?_; unfold Tryz.f65; simp only [Option.get!_some]
  by_cases h1 : a < 1
  · repeat (first | (simp only [go_sem, Nat.reduceEqDiff, Nat.reduceAdd, Nat.reduceSub, Nat.reduceMul, Nat.reduceLeDiff, Nat.reduceLT, reduceIte, reduceCtorEq, Nat.succ_ne_zero, elemsC, Int.reduceToNat, Nat.reducePow]) | (simp (disch := (first | omega | (simp only [AL, List.length_map]; omega))) only [AR, AL, ifT, ifF, take_all, List.length_cons, List.length_nil, Int.reduceToNat, Int.reducePow, Nat.reducePow]) | (refine wk_intro (by kernel_rfl) ?_) | (refine vp_draw (id := 6) (l := []) (by kernel_rfl) ?_))
    refine vf_of (h0) ?_; repeat (first | (simp only [go_sem, Nat.reduceEqDiff, Nat.reduceAdd, Nat.reduceSub, Nat.reduceMul, Nat.reduceLeDiff, Nat.reduceLT, reduceIte, reduceCtorEq, Nat.succ_ne_zero, elemsC, Int.reduceToNat, Nat.reducePow]) | (simp (disch := (first | omega | (simp only [AL, List.length_map]; omega))) only [AR, AL, ifT, ifF, take_all, List.length_cons, List.length_nil, Int.reduceToNat, Int.reducePow, Nat.reducePow]) | (refine wk_intro (by kernel_rfl) ?_) | (refine vp_draw (id := 6) (l := []) (by kernel_rfl) ?_))
    rfl
  · by_cases h2 : 256 < a
    · repeat (first | (simp only [go_sem, Nat.reduceEqDiff, Nat.reduceAdd, Nat.reduceSub, Nat.reduceMul, Nat.reduceLeDiff, Nat.reduceLT, reduceIte, reduceCtorEq, Nat.succ_ne_zero, elemsC, Int.reduceToNat, Nat.reducePow]) | (simp (disch := (first | omega | (simp only [AL, List.length_map]; omega))) only [AR, AL, ifT, ifF, take_all, List.length_cons, List.length_nil, Int.reduceToNat, Int.reducePow, Nat.reducePow]) | (refine wk_intro (by kernel_rfl) ?_) | (refine vp_draw (id := 6) (l := []) (by kernel_rfl) ?_))
      refine vf_of (h0) ?_; repeat (first | (simp only [go_sem, Nat.reduceEqDiff, Nat.reduceAdd, Nat.reduceSub, Nat.reduceMul, Nat.reduceLeDiff, Nat.reduceLT, reduceIte, reduceCtorEq, Nat.succ_ne_zero, elemsC, Int.reduceToNat, Nat.reducePow]) | (simp (disch := (first | omega | (simp only [AL, List.length_map]; omega))) only [AR, AL, ifT, ifF, take_all, List.length_cons, List.length_nil, Int.reduceToNat, Int.reducePow, Nat.reducePow]) | (refine wk_intro (by kernel_rfl) ?_) | (refine vp_draw (id := 6) (l := []) (by kernel_rfl) ?_))
      rfl
    · by_cases h3 : b < 1
      · repeat (first | (simp only [go_sem, Nat.reduceEqDiff, Nat.reduceAdd, Nat.reduceSub, Nat.reduceMul, Nat.reduceLeDiff, Nat.reduceLT, reduceIte, reduceCtorEq, Nat.succ_ne_zero, elemsC, Int.reduceToNat, Nat.reducePow]) | (simp (disch := (first | omega | (simp only [AL, List.length_map]; omega))) only [AR, AL, ifT, ifF, take_all, List.length_cons, List.length_nil, Int.reduceToNat, Int.reducePow, Nat.reducePow]) | (refine wk_intro (by kernel_rfl) ?_) | (refine vp_draw (id := 6) (l := []) (by kernel_rfl) ?_))
        refine vf_of (h0) ?_; repeat (first | (simp only [go_sem, Nat.reduceEqDiff, Nat.reduceAdd, Nat.reduceSub, Nat.reduceMul, Nat.reduceLeDiff, Nat.reduceLT, reduceIte, reduceCtorEq, Nat.succ_ne_zero, elemsC, Int.reduceToNat, Nat.reducePow]) | (simp (disch := (first | omega | (simp only [AL, List.length_map]; omega))) only [AR, AL, ifT, ifF, take_all, List.length_cons, List.length_nil, Int.reduceToNat, Int.reducePow, Nat.reducePow]) | (refine wk_intro (by kernel_rfl) ?_) | (refine vp_draw (id := 6) (l := []) (by kernel_rfl) ?_))
        rfl
      · have h4 : 256 < b := by omega
        repeat (first | (simp only [go_sem, Nat.reduceEqDiff, Nat.reduceAdd, Nat.reduceSub, Nat.reduceMul, Nat.reduceLeDiff, Nat.reduceLT, reduceIte, reduceCtorEq, Nat.succ_ne_zero, elemsC, Int.reduceToNat, Nat.reducePow]) | (simp (disch := (first | omega | (simp only [AL, List.length_map]; omega))) only [AR, AL, ifT, ifF, take_all, List.length_cons, List.length_nil, Int.reduceToNat, Int.reducePow, Nat.reducePow]) | (refine wk_intro (by kernel_rfl) ?_) | (refine vp_draw (id := 6) (l := []) (by kernel_rfl) ?_) | (refine vf_of (by first | exact h0) ?_))
        rfl
end Go.Proofs.YtigiblhmhmgagaaGreat

/- vernierref12.core, in the evaluator. -/
namespace Go.Proofs.YtigiblhmhmgagaaGreat
set_option linter.unusedSimpArgs false
set_option linter.unusedVariables false
set_option maxRecDepth 8000
open Go.Ev
set_option linter.unusedVariables false
def ivOk3 (w : Nat) : Bool := match piIv w with
  | some (lo, hi) => Nat.ble (2 ^ w) lo && Nat.ble hi (2 ^ (w + 3))
  | none => false
theorem iv_ok3 : allFrom ivOk3 81 340 = true := by kernel_rfl
/-- Pi, in the document's units. -/
theorem ref8_Pi2 {w : Nat} (h1 : 340 ≤ w) (h2 : w ≤ 420) : ∃ lo hi : Nat, Go.Ev.Fn CX 71 [.int .i64 (w : Int)] (ivN lo hi) ∧ Enc w lo hi PI0 ∧ 2 ^ w ≤ lo ∧ lo ≤ hi ∧ (lim hi).length ≤ 1000 := by
  have h := allFrom_at iv_ok2 w (by omega) (by omega)
  have h3 := allFrom_at iv_ok3 w h1 (by omega)
  unfold ivOk2 at h
  unfold ivOk3 at h3
  split at h
  · rename_i lo hi hpi
    rw [hpi] at h3
    rw [Bool.and_eq_true] at h
    have k1 := Nat.le_of_ble_eq_true h.1
    have k2 := Nat.le_of_ble_eq_true h.2
    have h4 : (Nat.ble (2 ^ w) lo && Nat.ble hi (2 ^ (w + 3))) = true := h3
    rw [Bool.and_eq_true] at h4
    have k3 : 2 ^ w ≤ lo := Nat.le_of_ble_eq_true h4.1
    have k4 := lim_len_p2 (Nat.le_of_ble_eq_true h4.2) (by omega)
    refine ⟨lo, hi, ref8_PiIv (by omega) hpi, ⟨pi_lo (by omega) k1, pi_hi (by omega) k2⟩, k3, Nat.le_of_mul_le_mul_right (Nat.le_trans k1 k2) (Nat.pow_pos (by omega)), by omega⟩
  · cases h
theorem ref4_InvN {a b w : Nat} (ha : 0 < a) (hab : a ≤ b) (hb : (lim b).length ≤ 100000) (hw : w ≤ 2000) : Go.Ev.Fn CX 70 [ivN a b, .int .i64 (w : Int)] (ivN (2 ^ (2 * w) / b) (cdv (2 ^ (2 * w)) a)) := by
  have p := ref4_pow2 (n := 2 * w) (by omega)
  have l := lim_len_shl (a := 1) (n := 2 * w)
  have l1 := lim_len1
  rw [Nat.one_mul] at l
  have f1 := ref4_Fall ((2 ^ (2 * w) : Nat) : Int) b (by omega) (by rw [Int.natAbs_natCast]; omega) (by omega)
  have f2 := ref4_Rise ((2 ^ (2 * w) : Nat) : Int) a (by omega) (by rw [Int.natAbs_natCast]; omega) (Nat.le_trans (lim_len_mono hab) (by omega))
  rw [cdZ_nat ha, intN_eq, intN_eq] at f2
  rw [← Int.natCast_ediv, intN_eq, intN_eq] at f1
  rw [show ((2 * w : Nat) : Int) = 2 * (w : Int) by omega] at p
  generalize 2 ^ (2 * w) / b = x at *
  generalize cdv (2 ^ (2 * w)) a = y at *
  generalize 2 ^ (2 * w) = P at *
  refine Go.Ev.Fn.intro (fn := Tryz.f70) (body := (Tryz.f70).body.get!) (by kernel_rfl) (by kernel_rfl) (by kernel_rfl) (fun _ => rfl) (Nat.le_of_ble_eq_true (by kernel_rfl)) ?_; unfold Tryz.f70; simp only [Option.get!_some]
  repeat (first | (simp only [go_sem, Nat.reduceEqDiff, Nat.reduceAdd, Nat.reduceSub, Nat.reduceMul, Nat.reduceLeDiff, Nat.reduceLT, reduceIte, reduceCtorEq, Nat.succ_ne_zero, elemsC, Int.reduceToNat, Nat.reducePow]) | (simp (disch := (first | omega | (simp only [AL, List.length_map]; omega))) only [AR, AL, ifT, ifF, take_all, List.length_cons, List.length_nil, Int.reduceToNat, Int.reducePow, Nat.reducePow]) | (refine wk_intro (by kernel_rfl) ?_) | (refine vp_draw (id := 2) (l := [13, 18]) (by kernel_rfl) ?_) | (refine vf_of (by first | exact p | exact f1 | exact f2) ?_))
theorem enc_invN {a b w : Nat} {q : Rat} (ha : 0 < a) (h : Enc w a b q) : Enc w (2 ^ (2 * w) / b) (cdv (2 ^ (2 * w)) a) (1 / q) := by
  obtain ⟨⟨k1, -⟩, q0⟩ := enc_inv ha h
  refine ⟨k1, ?_⟩
  have aR : (0 : Rat) < (a : Rat) := by exact_mod_cast ha
  have P := p2_pos w
  have g := cdv_geR (2 ^ (2 * w)) ha
  have e0 : ((2 ^ (2 * w) : Nat) : Rat) = p2 w * p2 w := by rw [← p2_plus, show w + w = 2 * w by omega]
  rw [e0] at g
  have iq : 1 / q * q = 1 := Rat.div_mul_cancel (by grind)
  have i0 : 0 ≤ 1 / q := by
    rcases Rat.le_total (a := 0) (b := 1 / q) with k | k
    · exact k
    · have := Rat.mul_le_mul_of_nonneg_right k (show 0 ≤ q by grind)
      grind
  generalize 1 / q = i at *
  refine le_by aR ?_
  have k1 := Rat.mul_le_mul_of_nonneg_left h.1 (show 0 ≤ i * p2 w from Rat.mul_nonneg i0 (by grind))
  have k2 : i * p2 w * (q * p2 w) = p2 w * p2 w := by
    have : i * p2 w * (q * p2 w) = i * q * (p2 w * p2 w) := by grind
    rw [this, iq, Rat.one_mul]
  grind
/-- What is left out behind a term, from which on each is at most three quarters of the one ahead. -/
theorem sR_top2 {x : Rat} {a b K : Nat} (h0 : 0 ≤ x) (h1 : x + x ≤ 1) (hK : x * (((4 * (a + b + 2 * K) : Nat) : Int) : Rat) ≤ (((3 * (a + 2 + 2 * K) : Nat) : Int) : Rat)) (j : Nat) :
    sR x a b (K + j) + 3 * rR x a b (K + j) ≤ sR x a b K + 3 * rR x a b K ∧ x * (((4 * (a + b + 2 * (K + j)) : Nat) : Int) : Rat) ≤ (((3 * (a + 2 + 2 * (K + j)) : Nat) : Int) : Rat) := by
  induction j with
  | zero => exact ⟨Rat.le_refl, hK⟩
  | succ j ih =>
    obtain ⟨i1, i2⟩ := ih
    have M : (0 : Rat) < ((a + 2 + 2 * (K + j) : Nat) : Rat) := by exact_mod_cast (show 0 < a + 2 + 2 * (K + j) by omega)
    have e := rR_step (x := x) (a := a) (b := b) (K + j)
    have r0 := rR_nn (a := a) (b := b) h0 (K + j)
    have c1 : (((4 * (a + b + 2 * (K + j)) : Nat) : Int) : Rat) = 4 * ((a + b + 2 * (K + j) : Nat) : Rat) := by
      have : (((4 * (a + b + 2 * (K + j)) : Nat) : Int) : Rat) = ((4 * (a + b + 2 * (K + j)) : Nat) : Rat) := rfl
      rw [this]; exact_mod_cast rfl
    have c2 : (((3 * (a + 2 + 2 * (K + j)) : Nat) : Int) : Rat) = 3 * ((a + 2 + 2 * (K + j) : Nat) : Rat) := by
      have : (((3 * (a + 2 + 2 * (K + j)) : Nat) : Int) : Rat) = ((3 * (a + 2 + 2 * (K + j)) : Nat) : Rat) := rfl
      rw [this]; exact_mod_cast rfl
    have c3 : (((4 * (a + b + 2 * (K + (j + 1))) : Nat) : Int) : Rat) = 4 * ((a + b + 2 * (K + j) : Nat) : Rat) + 8 := by
      have : (((4 * (a + b + 2 * (K + (j + 1))) : Nat) : Int) : Rat) = ((4 * (a + b + 2 * (K + j)) + 8 : Nat) : Rat) := by congr 2
      rw [this]; exact_mod_cast rfl
    have c4 : (((3 * (a + 2 + 2 * (K + (j + 1))) : Nat) : Int) : Rat) = 3 * ((a + 2 + 2 * (K + j) : Nat) : Rat) + 6 := by
      have : (((3 * (a + 2 + 2 * (K + (j + 1))) : Nat) : Int) : Rat) = ((3 * (a + 2 + 2 * (K + j)) + 6 : Nat) : Rat) := by congr 2
      rw [this]; exact_mod_cast rfl
    rw [c1, c2] at i2
    refine ⟨?_, by rw [c3, c4]; grind⟩
    refine Rat.le_trans ?_ i1
    show sR x a b (K + j) + rR x a b (K + j + 1) + 3 * rR x a b (K + j + 1) ≤ _
    have key : 4 * rR x a b (K + j + 1) ≤ 3 * rR x a b (K + j) := by
      clear i1 c1 c2 c3 c4 hK
      generalize ((a + 2 + 2 * (K + j) : Nat) : Rat) = m at *
      generalize ((a + b + 2 * (K + j) : Nat) : Rat) = n at *
      generalize rR x a b (K + j + 1) = r' at *
      generalize rR x a b (K + j) = r at *
      refine le_by M ?_
      have k1 := Rat.mul_le_mul_of_nonneg_left i2 r0
      have e1 : 4 * r' * m = r * (x * (4 * n)) := by
        have : 4 * r' * m = 4 * (r' * m) := by grind
        rw [this, e]; grind
      rw [e1]
      have e2 : 3 * r * m = r * (3 * m) := by grind
      rw [e2]; exact k1
    grind
theorem quo_is {r : Rat} {a : Nat} (h : 0 < r.num.natAbs * a) (hr : 0 ≤ r) : 2 / (r * ((a : Int) : Rat)) = ((r.den * 2 : Nat) : Rat) / ((r.num.natAbs * a : Nat) : Rat) := by
  have N : (0 : Rat) < ((r.num.natAbs * a : Nat) : Rat) := by exact_mod_cast h
  have D : (0 : Rat) < (r.den : Rat) := by exact_mod_cast r.den_pos
  have h2 : ((r.num.natAbs : Nat) : Rat) = r * (r.den : Rat) := by
    rw [num_den r, ← num_abs hr]; rfl
  have c1 : ((r.num.natAbs * a : Nat) : Rat) = r * (r.den : Rat) * (a : Rat) := by rw [← h2]; exact_mod_cast rfl
  have c2 : ((r.den * 2 : Nat) : Rat) = (r.den : Rat) * 2 := by exact_mod_cast rfl
  have ca : (((a : Int)) : Rat) = (a : Rat) := rfl
  rw [c1] at N
  rw [c1, c2, ca]
  generalize (r.den : Rat) = d at *
  generalize (a : Rat) = x at *
  have nz : r * x ≠ 0 := by
    intro e
    have : r * d * x = r * x * d := by grind
    rw [this, e] at N
    grind
  have e1 := Rat.div_mul_cancel (a := 2) (b := r * x) nz
  have e2 := Rat.div_mul_cancel (a := d * 2) (b := r * d * x) (by grind)
  generalize 2 / (r * x) = u at *
  generalize d * 2 / (r * d * x) = v at *
  have e3 : (u - v) * (r * d * x) = 0 := by grind
  rcases Rat.mul_eq_zero.1 e3 with g | g
  · grind
  · grind
end Go.Proofs.YtigiblhmhmgagaaGreat

/- vernierref12.core, in the evaluator: the walk. -/
namespace Go.Proofs.YtigiblhmhmgagaaGreat
set_option linter.unusedSimpArgs false
set_option linter.unusedVariables false
set_option maxRecDepth 8000
open Go.Ev
set_option linter.unusedVariables false
theorem cdv_le' {a b d : Nat} (hd : 0 < d) (h : a ≤ b) : cdv a d ≤ cdv b d := by
  unfold cdv
  exact Nat.div_le_div_right (by omega)
theorem cdv_self (a : Nat) {d : Nat} (hd : 0 < d) : cdv a d ≤ a := cdv_le hd (Nat.le_mul_of_pos_right _ hd)
theorem prod_le {b d w x y : Nat} (h1 : b ≤ 2 ^ x) (h2 : d ≤ 2 ^ (w + y)) : cdv (b * d) (2 ^ w) ≤ 2 ^ (x + y) := by
  refine cdv_le (Nat.pow_pos (by omega)) ?_
  have := Nat.mul_le_mul h1 h2
  rw [← Nat.pow_add] at this
  rw [← Nat.pow_add, show x + y + w = x + (w + y) by omega]
  exact this
theorem gam2_nn (n : Nat) : 0 ≤ gam2 n := by
  unfold gam2
  split
  · exact nat_nonneg _
  · have P := p2_pos (n / 2)
    exact le_by P (by rw [mk_p2n, Rat.zero_mul]; exact nat_nonneg _)
theorem beta2_nn (a b : Nat) : 0 ≤ beta2 a b := by
  unfold beta2
  have h := gam2_nn (a + b)
  have h2 : 0 < gam2 (a + b) := by have := gam2_pos (n := a + b); grind
  rw [Rat.div_def]
  exact Rat.mul_nonneg (Rat.mul_nonneg (gam2_nn a) (gam2_nn b)) (by have := Rat.inv_pos.2 h2; grind)
theorem enc_backN {w A B n : Nat} {q : Rat} (h : Enc (w + n) A B q) : Enc w (A / 2 ^ n) (cdv B (2 ^ n)) q := by
  have P := p2_pos n
  have f := floor_le (a := A) (d := 2 ^ n)
  have g := cdv_geR B (show 0 < 2 ^ n from Nat.pow_pos (by omega))
  obtain ⟨h1, h2⟩ := h
  rw [p2_plus] at h1 h2
  refine ⟨le_by P ?_, le_by P ?_⟩
  · have e : q * p2 w * p2 n = q * (p2 w * p2 n) := by grind
    rw [e]; exact Rat.le_trans f h1
  · have e : q * p2 w * p2 n = q * (p2 w * p2 n) := by grind
    rw [e]; exact Rat.le_trans h2 g
section
variable {v : SV} {x : Rat} {w L a b : Nat}
set_option maxHeartbeats 2000000 in
theorem ref12_core (hv : RatA v x L) (hL1 : 1 ≤ L) (hL : L ≤ 8) (ha : 1 ≤ a) (ha2 : a ≤ 20) (hb : 1 ≤ b) (hb2 : b ≤ 20) (h0 : 0 ≤ x) (h1 : x + x ≤ 1) (hw0 : 40 ≤ w) (hw : w ≤ 120) :
    ∃ A B K : Nat, ∃ p1 p2' q1 q2 : Rat, Go.Ev.Fn CX 35 [.int .i64 (a : Int), .int .i64 (b : Int), v, .int .i64 (w : Int)] (ivN A B) ∧ A ≤ B ∧ B ≤ 2 ^ (w + 400) ∧
      0 ≤ p1 ∧ p1 * p1 ≤ x ∧ 0 ≤ p2' ∧ x ≤ p2' * p2' ∧ 0 ≤ q1 ∧ q1 * q1 ≤ 1 - x ∧ 0 ≤ q2 ∧ 1 - x ≤ q2 * q2 ∧
      ∀ sx sy, p1 ≤ sx → sx ≤ p2' → q1 ≤ sy → sy ≤ q2 → ∀ M, K ≤ M → Enc w A B (fstR a b x sx sy * sR x a b M) := by
  obtain ⟨W, hW, hw1, hw2, hwi⟩ : ∃ W : Nat, (∀ Q : Nat → Prop, Q W → Q (w + 300)) ∧ 340 ≤ W ∧ W ≤ 420 ∧ (w : Int) + 300 = (W : Int) := ⟨w + 300, fun Q h => h, by omega, by omega, rfl⟩
  have zx := szR_of hv hL1
  have zy := szR_sub one_szR' zx (by omega)
  have hP : 2 ^ 60 ≤ 2 ^ W := Nat.pow_le_pow_right (n := 2) (by omega) (by omega)
  obtain ⟨X1, X2, p1, p2', fx, x1, x2, a0, a1, a2, a3, ex⟩ := ref12_power (n := a) (w := W) hv hL1 (by omega) h0 (show x ≤ 1 by clear hW; grind) (by omega) (by omega) (by omega)
  obtain ⟨Y1, Y2, q1, q2, fy, y1, y2, b0, b1, b2, b3, ey⟩ := ref12_power (n := b) (w := W) (RatA_rv zy) (by omega) (by omega) (show 0 ≤ 1 - x by clear fx ex; grind) (show 1 - x ≤ 1 by clear fx ex; grind) (by omega) (by omega) (by omega)
  obtain ⟨A0, B0, K, fr, r1, r2, r3, r4, r5⟩ := ref12_row (w := W) hv hL1 (by omega) ha ha2 hb hb2 h0 h1 (by omega) (by omega)
  have er : ∀ M, K ≤ M → Enc W A0 B0 (sR x a b M) := by
    intro M hM
    have P := p2_pos W
    obtain ⟨j, rfl⟩ := Nat.exists_eq_add_of_le hM
    refine ⟨Rat.le_trans r3 (Rat.mul_le_mul_of_nonneg_right (sR_up h0 hM) (Rat.le_of_lt P)), Rat.le_trans (Rat.mul_le_mul_of_nonneg_right ?_ (Rat.le_of_lt P)) r4⟩
    have := (sR_top2 h0 h1 r5 j).1
    have n := rR_nn (a := a) (b := b) h0 (K + j)
    grind
  have hp1 : 2 ^ (W + 1) = 2 * 2 ^ W := by rw [Nat.pow_succ, Nat.mul_comm]
  have X2' : X2 ≤ 2 ^ (W + 1) := by omega
  have Y2' : Y2 ≤ 2 ^ (W + 1) := by omega
  have lX2 := lim_len_p2 X2' (by omega)
  have lY2 := lim_len_p2 Y2' (by omega)
  have pr1 := ref4_ProdN (a := X1) (b := X2) (c := Y1) (d := Y2) (w := W) x1 y1 (by omega) (by omega) (by omega) (by omega)
  have P0 : 0 < 2 ^ W := Nat.pow_pos (by omega)
  have m12 : X1 * Y1 / 2 ^ W ≤ cdv (X2 * Y2) (2 ^ W) := div_le_cdv P0 (Nat.mul_le_mul x1 y1)
  have mT : cdv (X2 * Y2) (2 ^ W) ≤ 2 ^ (W + 1 + 1) := prod_le (y := 1) X2' Y2'
  have em := fun sx sy (u1 : p1 ≤ sx) (u2 : sx ≤ p2') (v1 : q1 ≤ sy) (v2 : sy ≤ q2) => enc_prodN (ex sx u1 u2) (ey sy v1 v2)
  generalize X1 * Y1 / 2 ^ W = M1 at *
  generalize cdv (X2 * Y2) (2 ^ W) = M2 at *
  have lM2 := lim_len_p2 mT (by omega)
  have be := ref9_Beta a b ha (by omega) hb (by omega)
  obtain ⟨c1, c2⟩ := bet_ok ha hb ha2 hb2
  have zb := beta2_size (a := a) (b := b) (by omega) (by omega)
  have bnn : 0 ≤ beta2 a b := beta2_nn a b
  have qi := quo_is c2 bnn
  have i2 := ref2_Int 2 (by omega)
  have ia := ref2_Int (a : Int) (by omega)
  have i1 := ref2_Int 1 (by omega)
  have mu := ref2_Mul (RatA_rv zb) (RatA_rv (int_szR (n := (a : Int)) (by omega))) (by omega) (by omega) (by omega)
  have zm := szR_mul zb (int_szR (n := (a : Int)) (by omega)) (by omega)
  have di := ref2_Div (RatA_rv (int_szR (n := 2) (by omega))) (RatA_rv zm) (by omega) (by omega) (by omega)
  have zq := szR_div (int_szR (n := 2) (by omega)) zm (by omega) (by omega)
  have sb := ref2_Sub (RatA_rv (int_szR (n := 1) (by omega))) hv (by omega) hL1 (by omega)
  rw [show ((1 : Int) : Rat) = 1 from rfl] at i1 sb
  rw [show ((2 : Int) : Rat) = 2 from rfl] at i2 di zq
  have qnn : 0 ≤ 2 / (beta2 a b * ((a : Int) : Rat)) := by
    have N : (0 : Rat) < (((beta2 a b).num.natAbs * a : Nat) : Rat) := by exact_mod_cast c2
    rw [qi, Rat.div_def]
    exact Rat.mul_nonneg (nat_nonneg _) (by have := Rat.inv_pos.2 N; grind)
  have qT : upN (2 / (beta2 a b * ((a : Int) : Rat))) W ≤ 2 ^ (W + 20) := by
    refine upN_le (n := 1048576) (m := 1) qnn ?_ (by rw [Nat.pow_add]; omega) (by omega)
    have N : (0 : Rat) < (((beta2 a b).num.natAbs * a : Nat) : Rat) := by exact_mod_cast c2
    refine le_by N ?_
    rw [qi]
    have e1 := Rat.div_mul_cancel (a := (((beta2 a b).den * 2 : Nat) : Rat)) (b := (((beta2 a b).num.natAbs * a : Nat) : Rat)) (by grind)
    have e2 := nat_le_rat c1
    have e3 : ((1048576 * ((beta2 a b).num.natAbs * a) : Nat) : Rat) = ((1048576 : Nat) : Rat) * (((beta2 a b).num.natAbs * a : Nat) : Rat) := by exact_mod_cast rfl
    rw [e3, ← e1] at e2
    have one : ((1 : Nat) : Rat) = 1 := rfl
    rw [one, Rat.mul_one]
    exact e2
  have nq := ref4_NumN (w := W) (RatA_rv zq) (by omega) (by omega) (by omega) qnn
  have eq := num_enc qnn W
  have q12 := un_up (q := 2 / (beta2 a b * ((a : Int) : Rat))) W
  have lq := lim_len_p2 qT (by omega)
  have pr2 := ref4_ProdN (a := M1) (b := M2) (c := unN (2 / (beta2 a b * ((a : Int) : Rat))) W) (d := upN (2 / (beta2 a b * ((a : Int) : Rat))) W) (w := W) m12 q12 (by omega) (by omega) (by omega) (by omega)
  have et := fun sx sy (u1 : p1 ≤ sx) (u2 : sx ≤ p2') (v1 : q1 ≤ sy) (v2 : sy ≤ q2) => enc_prodN (em sx sy u1 u2 v1 v2) eq
  have n12 := div_le_cdv (d := 2 ^ W) P0 (Nat.mul_le_mul m12 q12)
  have nT : cdv (M2 * upN (2 / (beta2 a b * ((a : Int) : Rat))) W) (2 ^ W) ≤ 2 ^ (W + 1 + 1 + 20) := prod_le mT qT
  have hbe : ∃ be2, be2 = beta2 a b := ⟨_, rfl⟩
  obtain ⟨be2, hbe⟩ := hbe
  have fst : ∀ sx sy, (if a % 2 * (b % 2) = 1 then 1 / PI0 else 1) * (pwR x (a / 2) * (if a % 2 = 1 then sx else 1) * (pwR (1 - x) (b / 2) * (if b % 2 = 1 then sy else 1)) * (2 / (beta2 a b * ((a : Int) : Rat)))) = fstR a b x sx sy := by
    intro sx sy
    rw [qi]
    unfold fstR
    rw [Rat.div_def, Rat.div_def]
    grind
  generalize 2 / (beta2 a b * ((a : Int) : Rat)) = Q at *
  generalize M1 * unN Q W / 2 ^ W = N1 at *
  generalize cdv (M2 * upN Q W) (2 ^ W) = N2 at *
  generalize unN Q W = U1 at *
  generalize upN Q W = U2 at *
  have lN2 := lim_len_p2 nT (by omega)
  have nT' := nT
  have lB0 := lim_len_p2 r2 (by omega)
  rw [hbe.symm] at be mu di
  generalize be2 * ((a : Int) : Rat) = mq at *
  clear em qi c1 c2 zb bnn zm zq qnn eq r3 r4 r5 mT nT qT X2' Y2' x2 y2
  by_cases hpi : a % 2 * (b % 2) = 1
  · obtain ⟨PL, PH, fp, pe, pl, plh, PHl⟩ := ref8_Pi2 (w := W) hw1 hw2
    have be' : Go.Ev.Fn CX 65 [.int .i64 (a : Int), .int .i64 (b : Int)] (.tup [rv be2, .int .i64 1, .bool true]) := by
      rw [hpi] at be
      exact be
    have PL0 : 0 < PL := by omega
    have pp : 2 ^ (2 * W) = 2 ^ W * 2 ^ W := by rw [← Nat.pow_add, show 2 * W = W + W by omega]
    have ig := ref4_InvN (a := PL) (b := PH) (w := W) PL0 plh (by omega) (by omega)
    have ei := enc_invN PL0 pe
    have i12 : 2 ^ (2 * W) / PH ≤ cdv (2 ^ (2 * W)) PL := Nat.le_trans (Nat.div_le_div_left plh PL0) (div_le_cdv PL0 (Nat.le_refl _))
    have iT : cdv (2 ^ (2 * W)) PL ≤ 2 ^ W := cdv_le PL0 (by rw [pp]; exact Nat.mul_le_mul_left _ pl)
    have lI := lim_len_p2 iT (by omega)
    generalize 2 ^ (2 * W) / PH = I1 at *
    generalize cdv (2 ^ (2 * W)) PL = I2 at *
    have pr4 := ref4_ProdN (a := N1) (b := N2) (c := I1) (d := I2) (w := W) n12 i12 (by omega) (by omega) (by omega) (by omega)
    have r12 := div_le_cdv (d := 2 ^ W) P0 (Nat.mul_le_mul n12 i12)
    have rT : cdv (N2 * I2) (2 ^ W) ≤ 2 ^ (W + 1 + 1 + 20) := Nat.le_trans (cdv_le P0 (Nat.mul_le_mul_left _ iT)) nT'
    have eG := fun sx sy (u1 : p1 ≤ sx) (u2 : sx ≤ p2') (v1 : q1 ≤ sy) (v2 : sy ≤ q2) => enc_prodN (et sx sy u1 u2 v1 v2) ei
    generalize N1 * I1 / 2 ^ W = R1 at *
    generalize cdv (N2 * I2) (2 ^ W) = R2 at *
    have lR2 := lim_len_p2 rT (by omega)
    have pr3 := ref4_ProdN (a := R1) (b := R2) (c := A0) (d := B0) (w := W) r12 r1 (by omega) (by omega) (by omega) (by omega)
    have z12 := div_le_cdv (d := 2 ^ W) P0 (Nat.mul_le_mul r12 r1)
    have lz := lim_len_mul (a := R2) (b := B0)
    have lz2 := lim_len_mono (cdv_self (R2 * B0) P0)
    have eF := fun sx sy (u1 : p1 ≤ sx) (u2 : sx ≤ p2') (v1 : q1 ≤ sy) (v2 : sy ≤ q2) M (hM : K ≤ M) => enc_prodN (eG sx sy u1 u2 v1 v2) (er M hM)
    have zT : cdv (R2 * B0) (2 ^ W) ≤ 2 ^ (W + 1 + 1 + 20 + 60) := prod_le rT r2
    generalize R1 * A0 / 2 ^ W = Z1 at *
    generalize cdv (R2 * B0) (2 ^ W) = Z2 at *
    have bk := ref4_BackN (a := Z1) (b := Z2) (n := 300) (Nat.le_trans (lim_len_mono z12) (by omega)) (by omega) (by omega) (by omega)
    have zT' : Z2 ≤ 2 ^ (w + 400) := Nat.le_trans zT (Nat.pow_le_pow_right (by omega) (by omega))
    have oT : cdv Z2 (2 ^ 300) ≤ 2 ^ (w + 400) := Nat.le_trans (cdv_self Z2 (Nat.two_pow_pos 300)) zT'
    have o12 := div_le_cdv (d := 2 ^ 300) (Nat.two_pow_pos 300) z12
    refine ⟨_, _, K, p1, p2', q1, q2, ?_, o12, oT, a0, a1, a2, a3, b0, b1, b2, b3, ?_⟩
    rotate_left
    · intro sx sy u1 u2 v1 v2 M hM
      have h := eF sx sy u1 u2 v1 v2 M hM
      have f := fst sx sy
      rw [if_pos hpi, Rat.mul_comm (1 / PI0)] at f
      rw [f] at h
      exact enc_backN (w := w) (n := 300) (hW (fun W => Enc W Z1 Z2 (fstR a b x sx sy * sR x a b M)) h)
    clear eG eF er et ex ey fst oT zT zT' ei pe a0 a1 a2 a3 b0 b1 b2 b3
    generalize 1 - x = y at *
    generalize cdv Z2 (2 ^ 300) = O2 at *
    generalize Z1 / 2 ^ 300 = O1 at *
    obtain ⟨s0, n0, d0, rfl, -⟩ := hv
    refine Go.Ev.Fn.intro (fn := Tryz.f35) (body := (Tryz.f35).body.get!) (by kernel_rfl) (by kernel_rfl) (by kernel_rfl) (fun _ => rfl) (Nat.le_of_ble_eq_true (by kernel_rfl)) ?_; unfold Tryz.f35; simp only [Option.get!_some]
    repeat (first | (simp only [go_sem, Nat.reduceEqDiff, Nat.reduceAdd, Nat.reduceSub, Nat.reduceMul, Nat.reduceLeDiff, Nat.reduceLT, reduceIte, reduceCtorEq, Nat.succ_ne_zero, elemsC, Int.reduceToNat, Nat.reducePow, hwi]) | (simp (disch := (first | omega | (simp only [AL, List.length_map]; omega))) only [AR, AL, ifT, ifF, take_all, List.length_cons, List.length_nil, Int.reduceToNat, Int.reducePow, Nat.reducePow, hwi]) | (refine wk_intro (by kernel_rfl) ?_) | (refine vp_draw (id := 3) (l := []) (by kernel_rfl) ?_) | (refine vp_draw (id := 4) (l := []) (by kernel_rfl) ?_) | (refine vp_draw (id := 5) (l := []) (by kernel_rfl) ?_) | (refine vp_draw (id := 7) (l := []) (by kernel_rfl) ?_) | (refine vp_draw (id := 8) (l := []) (by kernel_rfl) ?_) | (refine vf_of (by first | exact be' | exact i2 | exact ia | exact mu | exact di | exact fx | exact i1 | exact sb | exact fy | exact pr1 | exact nq | exact pr2 | exact fp | exact ig | exact pr4 | exact fr | exact pr3 | exact bk) ?_))
  · have be' : Go.Ev.Fn CX 65 [.int .i64 (a : Int), .int .i64 (b : Int)] (.tup [rv be2, .int .i64 0, .bool true]) := by
      have : a % 2 * (b % 2) = 0 := by
        have x1 : a % 2 ≤ 1 := by omega
        have x2 : b % 2 ≤ 1 := by omega
        have := Nat.mul_le_mul x1 x2
        omega
      rw [this] at be
      exact be
    have pr3 := ref4_ProdN (a := N1) (b := N2) (c := A0) (d := B0) (w := W) n12 r1 (by omega) (by omega) (by omega) (by omega)
    have z12 := div_le_cdv (d := 2 ^ W) P0 (Nat.mul_le_mul n12 r1)
    have lz := lim_len_mul (a := N2) (b := B0)
    have lz2 := lim_len_mono (cdv_self (N2 * B0) P0)
    have eF := fun sx sy (u1 : p1 ≤ sx) (u2 : sx ≤ p2') (v1 : q1 ≤ sy) (v2 : sy ≤ q2) M (hM : K ≤ M) => enc_prodN (et sx sy u1 u2 v1 v2) (er M hM)
    have zT : cdv (N2 * B0) (2 ^ W) ≤ 2 ^ (W + 1 + 1 + 20 + 60) := prod_le nT' r2
    generalize N1 * A0 / 2 ^ W = Z1 at *
    generalize cdv (N2 * B0) (2 ^ W) = Z2 at *
    have bk := ref4_BackN (a := Z1) (b := Z2) (n := 300) (Nat.le_trans (lim_len_mono z12) (by omega)) (by omega) (by omega) (by omega)
    have zT' : Z2 ≤ 2 ^ (w + 400) := Nat.le_trans zT (Nat.pow_le_pow_right (by omega) (by omega))
    have oT : cdv Z2 (2 ^ 300) ≤ 2 ^ (w + 400) := Nat.le_trans (cdv_self Z2 (Nat.two_pow_pos 300)) zT'
    have o12 := div_le_cdv (d := 2 ^ 300) (Nat.two_pow_pos 300) z12
    refine ⟨_, _, K, p1, p2', q1, q2, ?_, o12, oT, a0, a1, a2, a3, b0, b1, b2, b3, ?_⟩
    rotate_left
    · intro sx sy u1 u2 v1 v2 M hM
      have h := eF sx sy u1 u2 v1 v2 M hM
      have f := fst sx sy
      rw [if_neg hpi, Rat.one_mul] at f
      rw [f] at h
      exact enc_backN (w := w) (n := 300) (hW (fun W => Enc W Z1 Z2 (fstR a b x sx sy * sR x a b M)) h)
    clear eF er et ex ey fst oT zT zT' a0 a1 a2 a3 b0 b1 b2 b3
    generalize 1 - x = y at *
    generalize cdv Z2 (2 ^ 300) = O2 at *
    generalize Z1 / 2 ^ 300 = O1 at *
    obtain ⟨s0, n0, d0, rfl, -⟩ := hv
    refine Go.Ev.Fn.intro (fn := Tryz.f35) (body := (Tryz.f35).body.get!) (by kernel_rfl) (by kernel_rfl) (by kernel_rfl) (fun _ => rfl) (Nat.le_of_ble_eq_true (by kernel_rfl)) ?_; unfold Tryz.f35; simp only [Option.get!_some]
    repeat (first | (simp only [go_sem, Nat.reduceEqDiff, Nat.reduceAdd, Nat.reduceSub, Nat.reduceMul, Nat.reduceLeDiff, Nat.reduceLT, reduceIte, reduceCtorEq, Nat.succ_ne_zero, elemsC, Int.reduceToNat, Nat.reducePow, hwi]) | (simp (disch := (first | omega | (simp only [AL, List.length_map]; omega))) only [AR, AL, ifT, ifF, take_all, List.length_cons, List.length_nil, Int.reduceToNat, Int.reducePow, Nat.reducePow, hwi]) | (refine wk_intro (by kernel_rfl) ?_) | (refine vp_draw (id := 3) (l := []) (by kernel_rfl) ?_) | (refine vp_draw (id := 4) (l := []) (by kernel_rfl) ?_) | (refine vp_draw (id := 5) (l := []) (by kernel_rfl) ?_) | (refine vp_draw (id := 7) (l := []) (by kernel_rfl) ?_) | (refine vp_draw (id := 8) (l := []) (by kernel_rfl) ?_) | (refine vf_of (by first | exact be' | exact i2 | exact ia | exact mu | exact di | exact fx | exact i1 | exact sb | exact fy | exact pr1 | exact nq | exact pr2 | exact fr | exact pr3 | exact bk) ?_))
end
end Go.Proofs.YtigiblhmhmgagaaGreat

/- incb.row of whole numbers, in the evaluator. -/
namespace Go.Proofs.YtigiblhmhmgagaaGreat
set_option linter.unusedSimpArgs false
set_option linter.unusedVariables false
set_option maxRecDepth 8000
open Go.Ev
theorem num_den' (q : Rat) : q * (q.den : Rat) = (q.num : Rat) := by
  have h : mkRat q.num q.den * (q.den : Rat) = (q.num : Rat) := by
    rw [Rat.mkRat_eq_div]
    refine Rat.div_mul_cancel ?_
    have : (0 : Rat) < (q.den : Rat) := by exact_mod_cast q.den_pos
    grind
  rwa [Rat.mkRat_self] at h
section
variable {x : Rat} {A B w : Nat}
/-- The first term is not too great, and known well. -/
theorem fs_ok (hA : 1 ≤ A) (hB : 1 ≤ B) (hAB : A + B ≤ 10) (h0 : 0 ≤ x) (h1 : x ≤ 1) (hw0 : 60 ≤ w) : okK w (2 * B) (2 ^ (w + 9)) (2 ^ 54) 0 (fsN x A B w).1 (fsN x A B w).2 (fsN x A B w).1 (fsN x A B w).2 := by
  have k1 := okS_pw (A := A) (w := w) h0 h1 (by omega)
  have k2 := okS_pw (q := 1 - x) (A := B) (w := w) (by grind) (by grind) (by omega)
  have hP : 2 ^ 60 ≤ 2 ^ w := Nat.pow_le_pow_right (n := 2) (by omega) hw0
  have k3 := okS_mul (by omega) (by omega) (by omega) k1 k2
  obtain ⟨-, -, e3⟩ := beta_ok hA hB hAB
  have hp9 : 2 ^ (w + 9) = 2 ^ w * 512 := by rw [Nat.pow_add]
  obtain ⟨g1, g2, g3⟩ := k3
  unfold okK
  rw [Nat.zero_min, Nat.pow_zero, Nat.one_mul, Nat.one_mul]
  generalize hM1 : (pwN x A w).1 * (pwN (1 - x) B w).1 / 2 ^ w = M1 at *
  generalize hM2 : (pwN x A w).2 * (pwN (1 - x) B w).2 / 2 ^ w + 1 = M2 at *
  have f1 : (fsN x A B w).1 = M1 * cc (B - 1) A := by rw [← hM1]
  have f2 : (fsN x A B w).2 = M2 * cc (B - 1) A + 1 := by rw [← hM2]
  rw [f1, f2]
  generalize cc (B - 1) A = c at *
  have x1 := Nat.mul_le_mul_right c g1
  have x2 : M2 * c ≤ (M1 + 2046) * c := Nat.mul_le_mul_right c (by omega)
  have x3 : M2 * c ≤ (2 ^ w + 2046) * 128 := Nat.mul_le_mul (by omega) e3
  have x4 : 2046 * c ≤ 2046 * 128 := Nat.mul_le_mul_left _ e3
  rw [Nat.add_mul] at x2
  refine ⟨?_, ?_, ?_, ?_, ?_, ?_⟩ <;> omega
/-- The row of whole numbers ends. -/
theorem row_ends (hA : 1 ≤ A) (hB : 1 ≤ B) (hAB : A + B ≤ 10) (h0 : 0 ≤ x) (h1 : x + x ≤ 1) (hw0 : 60 ≤ w) (hw : w ≤ 400) : 200 ≤ 2 ^ w ∧ 2 * unN x w ≤ 2 ^ w ∧ ∃ a b K, rowGo w (unN x w) (unN x w + 1) (2 * A) (2 * B) 2201 0 (fsN x A B w).1 (fsN x A B w).2 (fsN x A B w).1 (fsN x A B w).2 = some (a, b, K) := by
  have hP : 2 ^ 60 ≤ 2 ^ w := Nat.pow_le_pow_right (n := 2) (by omega) hw0
  have hy : 2 * unN x w ≤ 2 ^ w := by
    have h2 : 2 * x.num.natAbs ≤ x.den := by
      have := num_den' x
      have d0 : (0 : Rat) < (x.den : Rat) := by exact_mod_cast x.den_pos
      have h3 := Rat.mul_le_mul_of_nonneg_right h1 (show (0 : Rat) ≤ (x.den : Rat) by grind)
      have h4 : (x.num : Rat) + (x.num : Rat) ≤ (x.den : Rat) := by grind
      have h5 : ((x.num + x.num : Int) : Rat) ≤ (((x.den : Nat) : Int) : Rat) := by rw [Rat.intCast_add]; exact h4
      have h6 := Rat.intCast_le_intCast.1 h5
      have h7 := Rat.num_nonneg.2 h0
      omega
    have h3 := Nat.div_mul_le_self (x.num.natAbs * 2 ^ w) x.den
    have h4 := Nat.mul_le_mul_right (2 ^ w) h2
    have h5 : 2 * unN x w * x.den ≤ 2 ^ w * x.den := by
      have e1 : 2 * unN x w * x.den = 2 * (x.num.natAbs * 2 ^ w / x.den * x.den) := by rw [Nat.mul_assoc]
      have e2 : 2 * x.num.natAbs * 2 ^ w = 2 * (x.num.natAbs * 2 ^ w) := by rw [Nat.mul_assoc]
      rw [Nat.mul_comm (2 ^ w)]
      omega
    exact Nat.le_of_mul_le_mul_right h5 x.den_pos
  refine ⟨by omega, hy, ?_⟩
  have ok := fs_ok hA hB hAB h0 (show x ≤ 1 by grind) hw0
  unfold okK at ok
  rw [Nat.zero_min, Nat.pow_zero, Nat.one_mul, Nat.one_mul] at ok
  have hp9 : 2 ^ (w + 9) = 2 ^ w * 512 := by rw [Nat.pow_add]
  have h40 : 4 ^ (2 * B) ≤ 4 ^ 18 := Nat.pow_le_pow_right (by omega) (by omega)
  have hC : 4 ^ (2 * B) * 2 ^ (w + 9) ≤ 2 ^ 49 * 2 ^ w := by
    rw [hp9, Nat.mul_comm (2 ^ w) 512, ← Nat.mul_assoc]
    exact Nat.mul_le_mul_right _ (Nat.le_trans (Nat.mul_le_mul_right 512 h40) (by decide))
  have hF : 4 ^ 2000 * (4 ^ (2 * B) * 2 ^ (w + 9)) < 8 * 5 ^ 2000 := by
    obtain ⟨E, hE⟩ : ∃ E : Nat, E = 449 := ⟨_, rfl⟩
    have h49 : 2 ^ 49 * 2 ^ w ≤ 2 ^ E := by rw [← Nat.pow_add]; exact Nat.pow_le_pow_right (by omega) (by omega)
    obtain ⟨N4, hN4⟩ : ∃ N, N = 4 ^ 2000 := ⟨_, rfl⟩
    obtain ⟨N5, hN5⟩ : ∃ N, N = 5 ^ 2000 := ⟨_, rfl⟩
    rw [← hN4, ← hN5]
    have hk : N4 * 2 ^ E < 8 * N5 := by rw [hN4, hN5, hE]; decide +kernel
    exact Nat.lt_of_le_of_lt (Nat.mul_le_mul_left _ (Nat.le_trans hC h49)) hk
  exact row_early (a := 2 * A) (b := 2 * B) (F := 2000) (C := 2 ^ 49) (by omega) rfl hy (by omega) (by omega) (2 * B) 0 _ _ _ _ _ _ (by omega) (by omega) hC (by decide) hF ok
set_option maxHeartbeats 1000000 in
theorem incb_row {L A' B' K : Nat} (hA : 1 ≤ A) (hB : 1 ≤ B) (hAB : A + B ≤ 10) (hz : szR x L) (hL1 : 1 ≤ L) (hL : L ≤ 3) (h0 : 0 ≤ x) (h1 : x + x ≤ 1) (hw0 : 60 ≤ w) (hw : w ≤ 400)
    (hg : rowGo w (unN x w) (unN x w + 1) (2 * A) (2 * B) 2201 0 (fsN x A B w).1 (fsN x A B w).2 (fsN x A B w).1 (fsN x A B w).2 = some (A', B', K)) :
    Go.Ev.Fn CX 28 [.int .i64 (2 * (A : Int)), .int .i64 (2 * (B : Int)), rv x, .int .i64 (w : Int)] (spanV A' B') := by
  obtain ⟨hP, hy, -⟩ := row_ends hA hB hAB h0 h1 hw0 hw
  have r : Go.Ev.Fn CX 55 [rv x, .int .i64 (w : Int)] (spanV (unN x w) (unN x w + 1)) := fix_Rat hz (by omega) (w := w) (by omega)
  obtain ⟨ly1, ly2⟩ := unN_len hz (by omega) (show w ≤ 900 by omega)
  have fi := incb_first (w := w) hA hB hAB hz hL1 hL h0 (show x ≤ 1 by grind) (by omega) (by omega)
  have ok := fs_ok hA hB hAB h0 (show x ≤ 1 by grind) hw0
  have hp9 : 2 ^ (w + 9) = 2 ^ w * 512 := by rw [Nat.pow_add]
  have h40 : 4 ^ (2 * B) ≤ 4 ^ 18 := Nat.pow_le_pow_right (by omega) (by omega)
  have hC : 4 ^ (2 * B) * 2 ^ (w + 9) ≤ 2 ^ 49 * 2 ^ w := by
    rw [hp9, Nat.mul_comm (2 ^ w) 512, ← Nat.mul_assoc]
    exact Nat.mul_le_mul_right _ (Nat.le_trans (Nat.mul_le_mul_right 512 h40) (by decide))
  have hC2 : 4 ^ (2 * B) * 2 ^ (w + 9) ≤ 2 ^ (w + 49) := by
    have e49 : 2 ^ (w + 49) = 2 ^ 49 * 2 ^ w := by rw [Nat.pow_add, Nat.mul_comm]
    rw [e49]; exact hC
  have step := fun (k t1 t2 a1 a2 : Nat) (h : okK w (2 * B) (2 ^ (w + 9)) (2 ^ 54) k t1 t2 a1 a2) => okK_step (a := 2 * A) (y1 := unN x w) (y2 := unN x w + 1) (C := 2 ^ 49) hP rfl hy (by omega) (by omega) (by omega) hC (by decide) h
  have lens := fun (k t1 t2 a1 a2 : Nat) (hk : k ≤ 2201) (h : okK w (2 * B) (2 ^ (w + 9)) (2 ^ 54) k t1 t2 a1 a2) => (show (lim t1).length ≤ 40 ∧ (lim t2).length ≤ 40 ∧ (lim a1).length ≤ 40 ∧ (lim a2).length ≤ 40 from by
    obtain ⟨q1, q2, q3, q4, q5, q6⟩ := h
    have f := (four_le (k := k) (b := 2 * B) (T := 2 ^ (w + 9))).2
    have b1 : (k + 1) * (4 ^ min k (2 * B) * 2 ^ (w + 9)) ≤ 4096 * 2 ^ (w + 49) := Nat.mul_le_mul (by omega) (Nat.le_trans f hC2)
    have b2 : 4096 * 2 ^ (w + 49) = 2 ^ (w + 61) := by rw [show w + 61 = 12 + (w + 49) by omega, Nat.pow_add 2 12]
    have b3 : 2 ^ (w + 49) ≤ 2 ^ (w + 61) := Nat.pow_le_pow_right (by omega) (by omega)
    exact ⟨lim_len_p2 (w := w + 61) (by omega) (by omega), lim_len_p2 (w := w + 61) (by omega) (by omega), lim_len_p2 (w := w + 61) (by omega) (by omega), lim_len_p2 (w := w + 61) (by omega) (by omega)⟩)
  generalize (fsN x A B w).1 = F1 at *
  generalize (fsN x A B w).2 = F2 at *
  generalize unN x w = y1 at *
  clear hz h0 h1
  refine Go.Ev.Fn.intro (fn := Tryz.f28) (body := (Tryz.f28).body.get!) (by kernel_rfl) (by kernel_rfl) (by kernel_rfl) (fun _ => rfl) (Nat.le_of_ble_eq_true (by kernel_rfl)) ?_; unfold Tryz.f28; simp only [Option.get!_some]
  repeat (first | (simp only [go_sem, Nat.reduceEqDiff, Nat.reduceAdd, Nat.reduceSub, Nat.reduceMul, Nat.reduceLeDiff, Nat.reduceLT, reduceIte, reduceCtorEq, Nat.succ_ne_zero, elemsC, Int.reduceToNat, Nat.reducePow]) | (simp (disch := (first | omega | (simp only [AL, List.length_map]; omega))) only [AR, AL, ifT, ifF, take_all, List.length_cons, List.length_nil, Int.reduceToNat, Int.reducePow, Nat.reducePow]) | (refine wk_intro (by kernel_rfl) ?_) | (refine vf_of (by first | exact r | exact fi) ?_))
  refine vp_loop_inv (fun s => s.tmp 0 = .sv (.int .i64 (2 * (A : Int))) ∧ s.tmp 1 = .sv (.int .i64 (2 * (B : Int))) ∧ s.tmp 3 = .sv (.int .i64 (w : Int)) ∧ s.tmp 8 = .ptr 8 0 0 ∧ s.obj 8 0 = some [.sl 0 [], .sl 0 []] ∧ s.tmp 9 = .ptr 9 0 0 ∧ s.obj 9 0 = some [natV (lim y1), natV (lim (y1 + 1))] ∧ s.tmp 10 = .ptr 10 0 0 ∧ s.tmp 11 = .ptr 11 0 0 ∧
      ∃ f k t1 t2 a1 a2 : Nat, s.tmp 12 = .sv (.int .i64 (k : Int)) ∧ f + k = 2201 ∧ rowGo w y1 (y1 + 1) (2 * A) (2 * B) f k t1 t2 a1 a2 = some (A', B', K) ∧ s.obj 10 0 = some [natV (lim t1), natV (lim t2)] ∧ s.obj 11 0 = some [natV (lim a1), natV (lim a2)] ∧
        okK w (2 * B) (2 ^ (w + 9)) (2 ^ 54) k t1 t2 a1 a2)
    (fun s => match s.tmp 12 with | .sv (.int _ i) => 2202 - i.toNat | _ => 0) ⟨rfl, rfl, rfl, rfl, rfl, rfl, rfl, rfl, rfl, 2201, 0, F1, F2, F1, F2, rfl, rfl, hg, rfl, rfl, ok⟩ ?_
  rintro s ⟨i0, i1, i3, i8, o8, i9, o9, i10, i11, f, k, t1, t2, a1, a2, i12, hfk, hgo, o10, o11, hok⟩
  obtain ⟨lt1, lt2, la1, la2⟩ := lens k t1 t2 a1 a2 (by omega) hok
  have st := step k t1 t2 a1 a2 hok
  have sm := fix_Small (a := t1) (b := t2) (by omega) (k := 3) (by omega)
  cases f with
  | zero => simp only [rowGo] at hgo; cases hgo
  | succ f =>
    rw [rowGo] at hgo
    by_cases hs : 2 * B ≤ k ∧ t2 < 8
    · rw [if_pos hs] at hgo
      simp only [Option.some.injEq, Prod.mk.injEq] at hgo
      obtain ⟨rfl, rfl, rfl⟩ := hgo
      rw [decide_eq_true (show t2 < 2 ^ 3 from hs.2)] at sm
      have hs1 := hs.1
      have wd := fix_Wider (a := a1) (b := a2) (n := 64) (by omega) (by omega) (by omega)
      clear step lens st hs hg
      repeat (first | (simp only [go_sem, Nat.reduceEqDiff, Nat.reduceAdd, Nat.reduceSub, Nat.reduceMul, Nat.reduceLeDiff, Nat.reduceLT, reduceIte, reduceCtorEq, Nat.succ_ne_zero, elemsC, Int.reduceToNat, Nat.reducePow, i0, i1, i3, i8, o8, i9, o9, i10, i11, i12, o10, o11, Bool.not_true]) | (simp (disch := (first | omega | (simp only [AL, List.length_map]; omega))) only [AR, AL, ifT, ifF, take_all, List.length_cons, List.length_nil, Int.reduceToNat, Int.reducePow, Nat.reducePow, i0, i1, i3, i8, o8, i9, o9, i10, i11, i12, o10, o11, Bool.not_true]) | (refine wk_intro (by kernel_rfl) ?_) | (refine vf_of (by first | exact sm | exact wd) ?_))
    · rw [if_neg hs] at hgo
      obtain ⟨lu1, lu2, lb1, lb2⟩ := lens (k + 1) _ _ _ _ (by omega) st
      have mu := fix_Mul (a := t1) (b := t2) (c := y1) (d := y1 + 1) (w := w) (by omega) (by omega) (by omega) (by omega) (by omega) (by omega)
      have q1 := nat_Of (2 * A + 2 * B + 2 * k) (by omega)
      have q2 := nat_Of (2 * A + 2 + 2 * k) (by omega)
      have lq1 : (lim (2 * A + 2 * B + 2 * k)).length ≤ 1 := lim_len_one (by omega)
      have lq2 : (lim (2 * A + 2 + 2 * k)).length ≤ 1 := lim_len_one (by omega)
      have z1 := lim_len_mul (a := t1) (b := y1)
      have z2 := lim_len_mul (a := t2) (b := y1 + 1)
      have z3 := lim_len_mono (Nat.div_le_self (t1 * y1) (2 ^ w))
      have l1 := lim_len1
      have z4 := lim_len_add (a := t2 * (y1 + 1) / 2 ^ w) (b := 1) (L := 200) (Nat.le_trans (lim_len_mono (Nat.div_le_self (t2 * (y1 + 1)) (2 ^ w))) (by omega)) (by omega)
      have ti := fix_Times (a := t1 * y1 / 2 ^ w) (b := t2 * (y1 + 1) / 2 ^ w + 1) (n := 2 * A + 2 * B + 2 * k) (d := 2 * A + 2 + 2 * k) (by omega) (by omega) (by omega) (by omega) (by omega)
      rw [show ((2 * A + 2 * B + 2 * k : Nat) : Int) = 2 * (A : Int) + 2 * (B : Int) + 2 * (k : Int) by omega] at q1
      rw [show ((2 * A + 2 + 2 * k : Nat) : Int) = 2 * (A : Int) + 2 + 2 * (k : Int) by omega] at q2
      generalize t1 * y1 / 2 ^ w * (2 * A + 2 * B + 2 * k) / (2 * A + 2 + 2 * k) = u1 at *
      generalize (t2 * (y1 + 1) / 2 ^ w + 1) * (2 * A + 2 * B + 2 * k) / (2 * A + 2 + 2 * k) + 1 = u2 at *
      generalize t1 * y1 / 2 ^ w = v1 at *
      generalize t2 * (y1 + 1) / 2 ^ w + 1 = v2 at *
      have ad := fix_Add (a := a1) (b := a2) (c := u1) (d := u2) (by omega) (by omega) (by omega) (by omega)
      clear step lens hg
      by_cases hk : 2 * B ≤ k
      · rw [decide_eq_false (show ¬ t2 < 2 ^ 3 from fun h => hs ⟨hk, h⟩)] at sm
        repeat (first | (simp only [go_sem, Nat.reduceEqDiff, Nat.reduceAdd, Nat.reduceSub, Nat.reduceMul, Nat.reduceLeDiff, Nat.reduceLT, reduceIte, reduceCtorEq, Nat.succ_ne_zero, elemsC, Int.reduceToNat, Nat.reducePow, i0, i1, i3, i8, o8, i9, o9, i10, i11, i12, o10, o11, Bool.not_false]) | (simp (disch := (first | omega | (simp only [AL, List.length_map]; omega))) only [AR, AL, ifT, ifF, take_all, List.length_cons, List.length_nil, Int.reduceToNat, Int.reducePow, Nat.reducePow, i0, i1, i3, i8, o8, i9, o9, i10, i11, i12, o10, o11, Bool.not_false]) | (refine wk_intro (by kernel_rfl) ?_) | (refine vf_of (by first | exact sm | exact mu | exact q1 | exact q2 | exact ti | exact ad) ?_))
        exact ⟨⟨f, k + 1, u1, u2, a1 + u1, a2 + u2, rfl, by omega, hgo, rfl, rfl, st⟩, by omega⟩
      · repeat (first | (simp only [go_sem, Nat.reduceEqDiff, Nat.reduceAdd, Nat.reduceSub, Nat.reduceMul, Nat.reduceLeDiff, Nat.reduceLT, reduceIte, reduceCtorEq, Nat.succ_ne_zero, elemsC, Int.reduceToNat, Nat.reducePow, i0, i1, i3, i8, o8, i9, o9, i10, i11, i12, o10, o11]) | (simp (disch := (first | omega | (simp only [AL, List.length_map]; omega))) only [AR, AL, ifT, ifF, take_all, List.length_cons, List.length_nil, Int.reduceToNat, Int.reducePow, Nat.reducePow, i0, i1, i3, i8, o8, i9, o9, i10, i11, i12, o10, o11]) | (refine wk_intro (by kernel_rfl) ?_))
        repeat (first | (simp only [go_sem, Nat.reduceEqDiff, Nat.reduceAdd, Nat.reduceSub, Nat.reduceMul, Nat.reduceLeDiff, Nat.reduceLT, reduceIte, reduceCtorEq, Nat.succ_ne_zero, elemsC, Int.reduceToNat, Nat.reducePow, i0, i1, i3, i8, o8, i9, o9, i10, i11, i12, o10, o11]) | (simp (disch := (first | omega | (simp only [AL, List.length_map]; omega))) only [AR, AL, ifT, ifF, take_all, List.length_cons, List.length_nil, Int.reduceToNat, Int.reducePow, Nat.reducePow, i0, i1, i3, i8, o8, i9, o9, i10, i11, i12, o10, o11]) | (refine wk_intro (by kernel_rfl) ?_) | (refine vf_of (by first | exact mu | exact q1 | exact q2 | exact ti | exact ad) ?_))
        exact ⟨⟨f, k + 1, u1, u2, a1 + u1, a2 + u2, rfl, by omega, hgo, rfl, rfl, st⟩, by omega⟩
end
end Go.Proofs.YtigiblhmhmgagaaGreat

/- Of whole numbers beta's share is how likely so many tries succeed: plain mathematics. -/
namespace Go.Proofs.YtigiblhmhmgagaaGreat
open Go.Ev
set_option linter.unusedVariables false
/-- How likely just i of n fail (y), the others succeed (x). -/
def trm (x y : Rat) (n i : Nat) : Rat := ((cc (n - i) i : Nat) : Rat) * pwR x (n - i) * pwR y i
def sS (x y : Rat) (n : Nat) : Nat → Rat
  | 0 => 0
  | j + 1 => sS x y n j + trm x y n j
theorem pwR_succ (q : Rat) (n : Nat) : pwR q (n + 1) = pwR q n * q := rfl
theorem pwR_nn {q : Rat} (h : 0 ≤ q) : ∀ n, 0 ≤ pwR q n
  | 0 => by show (0 : Rat) ≤ 1; decide
  | n + 1 => Rat.mul_nonneg (pwR_nn h n) h
theorem cn (a b : Nat) : ((a + b : Nat) : Rat) = (a : Rat) + (b : Rat) := by exact_mod_cast rfl
theorem cm (a b : Nat) : ((a * b : Nat) : Rat) = (a : Rat) * (b : Rat) := by exact_mod_cast rfl
theorem trm_nn {x y : Rat} (hx : 0 ≤ x) (hy : 0 ≤ y) (n i : Nat) : 0 ≤ trm x y n i :=
  Rat.mul_nonneg (Rat.mul_nonneg (nat_nonneg _) (pwR_nn hx _)) (pwR_nn hy _)
theorem trm_step {x y : Rat} {n i : Nat} (h : i ≤ n) : trm x y (n + 1) (i + 1) = x * trm x y n (i + 1) + y * trm x y n i ∨ i = n := by
  by_cases e : i = n
  · exact .inr e
  · left
    obtain ⟨m, rfl⟩ : ∃ m, n = m + 1 + i := ⟨n - i - 1, by omega⟩
    unfold trm
    rw [show m + 1 + i + 1 - (i + 1) = m + 1 by omega, show m + 1 + i - (i + 1) = m by omega, show m + 1 + i - i = m + 1 by omega, cc_succ, cn]
    simp only [pwR_succ]
    grind
theorem sS_step {x y : Rat} {n : Nat} : ∀ j, j ≤ n → sS x y (n + 1) (j + 1) = x * sS x y n (j + 1) + y * sS x y n j := by
  intro j
  induction j with
  | zero =>
    intro _
    show 0 + trm x y (n + 1) 0 = x * (0 + trm x y n 0) + y * 0
    unfold trm
    rw [cc_zero, cc_zero, Nat.sub_zero, Nat.sub_zero, pwR_succ]
    grind
  | succ j ih =>
    intro h
    have h1 := ih (by omega)
    have h2 := (trm_step (x := x) (y := y) (n := n) (i := j) (by omega)).resolve_right (by omega)
    show sS x y (n + 1) (j + 1) + trm x y (n + 1) (j + 1) = x * (sS x y n (j + 1) + trm x y n (j + 1)) + y * (sS x y n j + trm x y n j)
    rw [h1, h2]
    grind
section
variable {x y : Rat} {B : Nat}
/-- From one shape to the next just one term is lost. -/
theorem share_step (hxy : x + y = 1) (hB : 1 ≤ B) (m : Nat) : sS x y (m + B - 1) B = trm x y (m + B - 1) (B - 1) * y + sS x y (m + 1 + B - 1) B := by
  obtain ⟨b, rfl⟩ : ∃ b, B = b + 1 := ⟨B - 1, by omega⟩
  rw [show m + (b + 1) - 1 = m + b by omega, show m + 1 + (b + 1) - 1 = m + b + 1 by omega, Nat.add_sub_cancel]
  have h := sS_step (x := x) (y := y) (n := m + b) b (by omega)
  have h2 : sS x y (m + b) (b + 1) = sS x y (m + b) b + trm x y (m + b) b := rfl
  rw [h]
  have e : y = 1 - x := by grind
  rw [h2, e]
  grind
theorem trm_half (hx : 0 ≤ x) (hxy : x ≤ y) (hy : 0 < y) {n i : Nat} (hi : 1 ≤ i) (hn : 3 * i ≤ n + 1) : 2 * trm x y n (i - 1) ≤ trm x y n i := by
  obtain ⟨j, rfl⟩ : ∃ j, i = j + 1 := ⟨i - 1, by omega⟩
  obtain ⟨m, rfl⟩ : ∃ m, n = m + (j + 1) := ⟨n - (j + 1), by omega⟩
  rw [Nat.add_sub_cancel]
  unfold trm
  rw [show m + (j + 1) - j = m + 1 by omega, Nat.add_sub_cancel]
  have h := cc_move m j
  have h' : ((cc (m + 1) j : Nat) : Rat) * ((m + 1 : Nat) : Rat) = ((cc m (j + 1) : Nat) : Rat) * ((j + 1 : Nat) : Rat) := by rw [← cm, ← cm, h]
  have hm : ((2 * (j + 1) : Nat) : Rat) ≤ ((m + 1 : Nat) : Rat) := by exact_mod_cast (show 2 * (j + 1) ≤ m + 1 by omega)
  rw [cm] at hm
  have hj : (0 : Rat) < ((j + 1 : Nat) : Rat) := by exact_mod_cast Nat.succ_pos j
  simp only [pwR_succ]
  have c0 := nat_nonneg (cc (m + 1) j)
  have p1 := pwR_nn hx m
  have p2 := pwR_nn (show 0 ≤ y by grind) j
  generalize ((cc (m + 1) j : Nat) : Rat) = c at *
  generalize ((cc m (j + 1) : Nat) : Rat) = d at *
  generalize ((m + 1 : Nat) : Rat) = M at *
  generalize ((j + 1 : Nat) : Rat) = J at *
  generalize pwR x m = X at *
  generalize pwR y j = Y at *
  have two : ((2 : Nat) : Rat) = 2 := rfl
  rw [two] at hm
  -- 2 c x J <= c y M = d J y
  refine le_by hj ?_
  have s1 : c * (X * Y) * x ≤ c * (X * Y) * y := Rat.mul_le_mul_of_nonneg_left hxy (Rat.mul_nonneg c0 (Rat.mul_nonneg p1 p2))
  have s2 : c * (X * Y) * y * (2 * J) ≤ c * (X * Y) * y * M := Rat.mul_le_mul_of_nonneg_left hm (Rat.mul_nonneg (Rat.mul_nonneg c0 (Rat.mul_nonneg p1 p2)) (by grind))
  have s3 : c * (X * Y) * x * (2 * J) ≤ c * (X * Y) * y * (2 * J) := Rat.mul_le_mul_of_nonneg_right s1 (by grind)
  have e1 : 2 * (c * (X * x) * Y) * J = c * (X * Y) * x * (2 * J) := by grind
  have e2 : d * X * (Y * y) * J = c * (X * Y) * y * M := by
    have : d * X * (Y * y) * J = (d * J) * (X * Y * y) := by grind
    rw [this, ← h']; grind
  rw [e1, e2]
  exact Rat.le_trans s3 s2
theorem sS_le_two (hx : 0 ≤ x) (hxy : x ≤ y) (hy : 0 < y) {n : Nat} : ∀ j, 3 * j ≤ n + 1 → sS x y n (j + 1) ≤ 2 * trm x y n j := by
  intro j
  induction j with
  | zero =>
    intro _
    have := trm_nn hx (show 0 ≤ y by grind) n 0
    show 0 + trm x y n 0 ≤ _
    grind
  | succ j ih =>
    intro h
    have h1 := ih (by omega)
    have h2 := trm_half hx hxy hy (n := n) (i := j + 1) (by omega) (by omega)
    rw [Nat.add_sub_cancel] at h2
    show sS x y n (j + 1) + trm x y n (j + 1) ≤ _
    grind
theorem sS_nn (hx : 0 ≤ x) (hy : 0 ≤ y) (n : Nat) : ∀ j, 0 ≤ sS x y n j
  | 0 => Rat.le_refl
  | j + 1 => by
    have h1 := sS_nn hx hy n j
    have h2 := trm_nn hx hy n j
    show 0 ≤ sS x y n j + trm x y n j
    grind
/-- What is left out is at most four times the term. -/
theorem share_le (hx : 0 ≤ x) (hxy : x ≤ y) (h1 : x + y = 1) (hB : 1 ≤ B) {m : Nat} (hm : 2 * B ≤ m) : sS x y (m + B - 1) B ≤ 4 * (trm x y (m + B - 1) (B - 1) * y) := by
  obtain ⟨b, rfl⟩ : ∃ b, B = b + 1 := ⟨B - 1, by omega⟩
  rw [Nat.add_sub_cancel]
  have hy : 0 < y := by grind
  have h2 := sS_le_two hx hxy hy (n := m + (b + 1) - 1) b (by omega)
  have t0 := trm_nn hx (show 0 ≤ y by grind) (m + (b + 1) - 1) b
  generalize trm x y (m + (b + 1) - 1) b = t at *
  have h3 : t * 1 ≤ t * (2 * y) := Rat.mul_le_mul_of_nonneg_left (by grind) t0
  grind
/-- A term of the row is a term of the share. -/
theorem term_is (hB : 1 ≤ B) {A : Nat} (hA : 1 ≤ A) : ∀ k, ((cc (B - 1) A : Nat) : Rat) * (pwR x A * pwR y B) * rR x (2 * A) (2 * B) k = trm x y (A + k + B - 1) (B - 1) * y := by
  obtain ⟨b, rfl⟩ : ∃ b, B = b + 1 := ⟨B - 1, by omega⟩
  intro k
  induction k with
  | zero =>
    unfold trm
    rw [show A + 0 + (b + 1) - 1 - (b + 1 - 1) = A by omega, Nat.add_sub_cancel, cc_symm b A]
    show _ * (pwR x A * (pwR y b * y)) * 1 = _
    grind
  | succ k ih =>
    have e1 : rR x (2 * A) (2 * (b + 1)) (k + 1) = rR x (2 * A) (2 * (b + 1)) k * x * ((2 * A + 2 * (b + 1) + 2 * k : Nat) : Rat) / ((2 * A + 2 + 2 * k : Nat) : Rat) := rfl
    have D : (0 : Rat) < ((2 * A + 2 + 2 * k : Nat) : Rat) := by exact_mod_cast (show 0 < 2 * A + 2 + 2 * k by omega)
    have e2 : ((cc (b + 1 - 1) A : Nat) : Rat) * (pwR x A * pwR y (b + 1)) * rR x (2 * A) (2 * (b + 1)) (k + 1) * ((2 * A + 2 + 2 * k : Nat) : Rat) = trm x y (A + k + (b + 1) - 1) (b + 1 - 1) * y * (x * ((2 * A + 2 * (b + 1) + 2 * k : Nat) : Rat)) := by
      rw [e1, ← ih]
      have := Rat.div_mul_cancel (a := rR x (2 * A) (2 * (b + 1)) k * x * ((2 * A + 2 * (b + 1) + 2 * k : Nat) : Rat)) (b := ((2 * A + 2 + 2 * k : Nat) : Rat)) (by grind)
      generalize rR x (2 * A) (2 * (b + 1)) k * x * ((2 * A + 2 * (b + 1) + 2 * k : Nat) : Rat) / ((2 * A + 2 + 2 * k : Nat) : Rat) = z at *
      grind
    have e3 : trm x y (A + (k + 1) + (b + 1) - 1) (b + 1 - 1) * y * ((2 * A + 2 + 2 * k : Nat) : Rat) = trm x y (A + k + (b + 1) - 1) (b + 1 - 1) * y * (x * ((2 * A + 2 * (b + 1) + 2 * k : Nat) : Rat)) := by
      unfold trm
      rw [Nat.add_sub_cancel, show A + (k + 1) + (b + 1) - 1 - b = A + k + 1 by omega, show A + k + (b + 1) - 1 - b = A + k by omega]
      have h := cc_step b (A + k)
      rw [cc_symm b (A + k + 1), cc_symm b (A + k)] at h
      have h' : ((cc (A + k + 1) b : Nat) : Rat) * ((2 * A + 2 + 2 * k : Nat) : Rat) = ((cc (A + k) b : Nat) : Rat) * ((2 * A + 2 * (b + 1) + 2 * k : Nat) : Rat) := by
        rw [← cm, ← cm]
        congr 1
        have x1 : 2 * A + 2 + 2 * k = (A + k + 1) * 2 := by omega
        have x2 : 2 * A + 2 * (b + 1) + 2 * k = (b + (A + k + 1)) * 2 := by omega
        rw [x1, x2, ← Nat.mul_assoc, ← Nat.mul_assoc, h]
      rw [pwR_succ]
      generalize ((2 * A + 2 + 2 * k : Nat) : Rat) = u at *
      generalize ((2 * A + 2 * (b + 1) + 2 * k : Nat) : Rat) = v at *
      grind
    rw [← e3] at e2
    have e4 : (((cc (b + 1 - 1) A : Nat) : Rat) * (pwR x A * pwR y (b + 1)) * rR x (2 * A) (2 * (b + 1)) (k + 1) - trm x y (A + (k + 1) + (b + 1) - 1) (b + 1 - 1) * y) * ((2 * A + 2 + 2 * k : Nat) : Rat) = 0 := by
      generalize ((2 * A + 2 + 2 * k : Nat) : Rat) = u at *
      grind
    rcases Rat.mul_eq_zero.1 e4 with g | g
    · grind
    · grind
/-- The row's sum, and what is left out, are the share. -/
theorem sum_is (hxy : x + y = 1) (hB : 1 ≤ B) {A : Nat} (hA : 1 ≤ A) : ∀ k, sS x y (A + B - 1) B = ((cc (B - 1) A : Nat) : Rat) * (pwR x A * pwR y B) * sR x (2 * A) (2 * B) k + sS x y (A + k + 1 + B - 1) B := by
  intro k
  induction k with
  | zero =>
    have h := share_step hxy hB A
    have t := term_is (x := x) (y := y) hB hA 0
    rw [h]
    rw [show A + 0 + B - 1 = A + B - 1 by omega] at t
    rw [← t]
    rfl
  | succ k ih =>
    have h := share_step hxy hB (A + k + 1)
    have t := term_is (x := x) (y := y) hB hA (k + 1)
    rw [ih, h]
    rw [show A + (k + 1) + B - 1 = A + k + 1 + B - 1 by omega] at t
    rw [← t]
    show _ = _ * (sR x (2 * A) (2 * B) k + rR x (2 * A) (2 * B) (k + 1)) + _
    rw [show A + (k + 1) + 1 + B - 1 = A + k + 1 + 1 + B - 1 by omega]
    grind
end
end Go.Proofs.YtigiblhmhmgagaaGreat
