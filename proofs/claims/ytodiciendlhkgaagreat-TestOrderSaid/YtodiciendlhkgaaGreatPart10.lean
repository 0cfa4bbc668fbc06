/- Part 10 of the proof: the evaluator, contracts of functions and their plain laws (joined by program). No condition. -/
import Derived.Test.YtodiciendlhkgaaGreatPart9
/- incb.row of any halves, in the evaluator. -/
namespace Go.Proofs.YtodiciendlhkgaaGreat
set_option linter.unusedSimpArgs false
set_option linter.unusedVariables false
set_option maxRecDepth 8000
open Go.Ev
set_option linter.unusedVariables false
section
variable {x : Rat} {a b w F1 F2 : Nat}
theorem half_units (h0 : 0 ≤ x) (h1 : x + x ≤ 1) : 2 * unN x w ≤ 2 ^ w := by
  have h2 : 2 * x.num.natAbs ≤ x.den := by
    have := num_den x
    have d0 : (0 : Rat) < (x.den : Rat) := by exact_mod_cast x.den_pos
    have h3 := Rat.mul_le_mul_of_nonneg_right h1 (show (0 : Rat) ≤ (x.den : Rat) by grind)
    have h4 : (x.num : Rat) + (x.num : Rat) ≤ (x.den : Rat) := by grind
    have h5 : ((x.num + x.num : Int) : Rat) ≤ (((x.den : Nat) : Int) : Rat) := by rw [Rat.intCast_add]; exact h4
    have h6 := Rat.intCast_le_intCast.1 h5
    have h7 := Rat.num_nonneg.2 h0
    omega
  have h3 := Nat.div_mul_le_self (x.num.natAbs * 2 ^ w) x.den
  have h4 := Nat.mul_le_mul_right (2 ^ w) h2
  have h5 : 2 * unN x w * x.den ≤ 2 ^ w * x.den := by
    have e1 : 2 * unN x w * x.den = 2 * (x.num.natAbs * 2 ^ w / x.den * x.den) := by rw [Nat.mul_assoc]
    have e2 : 2 * x.num.natAbs * 2 ^ w = 2 * (x.num.natAbs * 2 ^ w) := by rw [Nat.mul_assoc]
    rw [Nat.mul_comm (2 ^ w)]
    omega
  exact Nat.le_of_mul_le_mul_right h5 x.den_pos
theorem fst_ok (h1 : F1 ≤ F2) (h2 : F2 ≤ F1 + 2 ^ 45) (h3 : F2 ≤ 2 ^ (w + 25)) : okK w b (2 ^ (w + 25)) (2 ^ 69) 0 F1 F2 F1 F2 := by
  unfold okK
  rw [Nat.zero_min, Nat.pow_zero, Nat.one_mul, Nat.one_mul]
  refine ⟨?_, ?_, ?_, ?_, ?_, ?_⟩ <;> omega
theorem rowC_le (hb2 : b ≤ 20) : 4 ^ b * 2 ^ (w + 25) ≤ 2 ^ 65 * 2 ^ w ∧ 4 ^ b * 2 ^ 69 ≤ 2 ^ 109 := by
  have h40 : 4 ^ b ≤ 4 ^ 20 := Nat.pow_le_pow_right (by omega) hb2
  have hp : 2 ^ (w + 25) = 2 ^ 25 * 2 ^ w := by rw [Nat.pow_add, Nat.mul_comm]
  constructor
  · rw [hp, ← Nat.mul_assoc]
    exact Nat.mul_le_mul_right _ (Nat.le_trans (Nat.mul_le_mul_right _ h40) (by decide))
  · exact Nat.le_trans (Nat.mul_le_mul_right _ h40) (by decide)
/-- The row ends. -/
theorem rowh_ends (ha : 1 ≤ a) (hb2 : b ≤ 20) (h0 : 0 ≤ x) (h1 : x + x ≤ 1) (hw0 : 60 ≤ w) (hw : w ≤ 400) (g1 : F1 ≤ F2) (g2 : F2 ≤ F1 + 2 ^ 45) (g3 : F2 ≤ 2 ^ (w + 25)) : ∃ A B K, rowGo w (unN x w) (unN x w + 1) a b 2201 0 F1 F2 F1 F2 = some (A, B, K) := by
  have hP : 2 ^ 60 ≤ 2 ^ w := Nat.pow_le_pow_right (n := 2) (by omega) hw0
  have hy := half_units (w := w) h0 h1
  have ok := fst_ok (b := b) g1 g2 g3
  unfold okK at ok
  rw [Nat.zero_min, Nat.pow_zero, Nat.one_mul, Nat.one_mul] at ok
  have hC := (rowC_le (w := w) hb2).1
  have hp : 2 ^ (w + 25) = 2 ^ w * 33554432 := by rw [Nat.pow_add]
  have hF : 4 ^ 2000 * (4 ^ b * 2 ^ (w + 25)) < 8 * 5 ^ 2000 := by
    obtain ⟨E, hE⟩ : ∃ E : Nat, E = 465 := ⟨_, rfl⟩
    have h49 : 2 ^ 65 * 2 ^ w ≤ 2 ^ E := by rw [← Nat.pow_add]; exact Nat.pow_le_pow_right (by omega) (by omega)
    obtain ⟨N4, hN4⟩ : ∃ N, N = 4 ^ 2000 := ⟨_, rfl⟩
    obtain ⟨N5, hN5⟩ : ∃ N, N = 5 ^ 2000 := ⟨_, rfl⟩
    rw [← hN4, ← hN5]
    have hk : N4 * 2 ^ E < 8 * N5 := by rw [hN4, hN5, hE]; decide +kernel
    exact Nat.lt_of_le_of_lt (Nat.mul_le_mul_left _ (Nat.le_trans hC h49)) hk
  exact row_early (a := a) (b := b) (F := 2000) (C := 2 ^ 65) (by omega) rfl hy ha hb2 b 0 _ _ _ _ _ _ (by omega) (by omega) hC (by decide) hF ok
theorem rowh_bd {A B K : Nat} (ha : 1 ≤ a) (hb2 : b ≤ 20) (h0 : 0 ≤ x) (h1 : x + x ≤ 1) (hw0 : 60 ≤ w) (g1 : F1 ≤ F2) (g2 : F2 ≤ F1 + 2 ^ 45) (g3 : F2 ≤ 2 ^ (w + 25))
    (hg : rowGo w (unN x w) (unN x w + 1) a b 2201 0 F1 F2 F1 F2 = some (A, B, K)) : A ≤ B ∧ B ≤ A + 2 ^ 121 ∧ B ≤ 2 ^ (w + 77) := by
  have hP : 2 ^ 60 ≤ 2 ^ w := Nat.pow_le_pow_right (n := 2) (by omega) hw0
  have hp : 2 ^ (w + 25) = 2 ^ w * 33554432 := by rw [Nat.pow_add]
  obtain ⟨hC, hD⟩ := rowC_le (w := w) hb2
  obtain ⟨i1, i2, i3, i4⟩ := row_inv (a := a) (b := b) (C := 2 ^ 65) (by omega) rfl (half_units (w := w) h0 h1) ha hb2 (by omega) hC (by decide) 2201 0 _ _ _ _ hg (fst_ok g1 g2 g3)
  have b1 : (K + 1) * (4 ^ b * 2 ^ 69) ≤ 2201 * 2 ^ 109 := Nat.mul_le_mul (by omega) hD
  have b2 : (K + 1) * (4 ^ b * 2 ^ (w + 25)) ≤ 2201 * (2 ^ 65 * 2 ^ w) := Nat.mul_le_mul (by omega) hC
  have b3 : 2 ^ (w + 77) = 4096 * (2 ^ 65 * 2 ^ w) := by rw [show w + 77 = 12 + (65 + w) by omega, Nat.pow_add 2 12, Nat.pow_add 2 65]
  have b4 : 64 ≤ 2 ^ 65 * 2 ^ w := Nat.le_trans (by decide) (Nat.le_mul_of_pos_right (2 ^ 65) (by omega))
  omega
set_option maxHeartbeats 1000000 in
theorem incb_rowh {L A' B' K : Nat} (ha : 1 ≤ a) (ha2 : a ≤ 20) (hb : 1 ≤ b) (hb2 : b ≤ 20) (hz : szR x L) (hL : L ≤ 300) (h0 : 0 ≤ x) (h1 : x + x ≤ 1) (hw0 : 60 ≤ w) (hw : w ≤ 400)
    (fi : Go.Ev.Fn CX 129 [.int .i64 (a : Int), .int .i64 (b : Int), rv x, .int .i64 (w : Int)] (spanV F1 F2)) (g1 : F1 ≤ F2) (g2 : F2 ≤ F1 + 2 ^ 45) (g3 : F2 ≤ 2 ^ (w + 25))
    (hg : rowGo w (unN x w) (unN x w + 1) a b 2201 0 F1 F2 F1 F2 = some (A', B', K)) :
    Go.Ev.Fn CX 81 [.int .i64 (a : Int), .int .i64 (b : Int), rv x, .int .i64 (w : Int)] (spanV A' B') := by
  have hP : 2 ^ 60 ≤ 2 ^ w := Nat.pow_le_pow_right (n := 2) (by omega) hw0
  have hp25 : 2 ^ (w + 25) = 2 ^ w * 33554432 := by rw [Nat.pow_add]
  have hy := half_units (w := w) h0 h1
  have r : Go.Ev.Fn CX 128 [rv x, .int .i64 (w : Int)] (spanV (unN x w) (unN x w + 1)) := fix_Rat hz (by omega) (w := w) (by omega)
  obtain ⟨ly1, ly2⟩ := unN_len1 h0 (show x ≤ 1 by clear r hy; grind) (show w ≤ 900 by omega)
  have ok := fst_ok (b := b) g1 g2 g3
  have hC := (rowC_le (w := w) hb2).1
  have e65 : 2 ^ (w + 65) = 2 ^ 65 * 2 ^ w := by rw [Nat.pow_add, Nat.mul_comm]
  have step := fun (k t1 t2 a1 a2 : Nat) (h : okK w b (2 ^ (w + 25)) (2 ^ 69) k t1 t2 a1 a2) => okK_step (a := a) (y1 := unN x w) (y2 := unN x w + 1) (C := 2 ^ 65) (by omega) rfl hy ha hb2 (by omega) hC (by decide) h
  have lens := fun (k t1 t2 a1 a2 : Nat) (hk : k ≤ 2201) (h : okK w b (2 ^ (w + 25)) (2 ^ 69) k t1 t2 a1 a2) => (show (lim t1).length ≤ 40 ∧ (lim t2).length ≤ 40 ∧ (lim a1).length ≤ 40 ∧ (lim a2).length ≤ 40 from by
    obtain ⟨q1, q2, q3, q4, q5, q6⟩ := h
    have f := (four_le (k := k) (b := b) (T := 2 ^ (w + 25))).2
    have b1 : (k + 1) * (4 ^ min k b * 2 ^ (w + 25)) ≤ 4096 * 2 ^ (w + 65) := Nat.mul_le_mul (by omega) (Nat.le_trans f (by rw [e65]; exact hC))
    have b2 : 4096 * 2 ^ (w + 65) = 2 ^ (w + 77) := by rw [show w + 77 = 12 + (w + 65) by omega, Nat.pow_add 2 12]
    have b3 : 2 ^ (w + 65) ≤ 2 ^ (w + 77) := Nat.pow_le_pow_right (by omega) (by omega)
    have b5 : 4 ^ min k b * 2 ^ (w + 25) ≤ 2 ^ (w + 65) := Nat.le_trans f (by rw [e65]; exact hC)
    exact ⟨lim_len_p2 (w := w + 77) (by omega) (by omega), lim_len_p2 (w := w + 77) (by omega) (by omega), lim_len_p2 (w := w + 77) (by omega) (by omega), lim_len_p2 (w := w + 77) (by omega) (by omega)⟩)
  generalize unN x w = y1 at *
  clear hz h0 h1
  refine Go.Ev.Fn.intro (fn := Tryz.f81) (body := (Tryz.f81).body.get!) (by kernel_rfl) (by kernel_rfl) (by kernel_rfl) (fun _ => rfl) (Nat.le_of_ble_eq_true (by kernel_rfl)) ?_; unfold Tryz.f81; simp only [Option.get!_some]
  repeat (first | (simp only [go_sem, Nat.reduceEqDiff, Nat.reduceAdd, Nat.reduceSub, Nat.reduceMul, Nat.reduceLeDiff, Nat.reduceLT, reduceIte, reduceCtorEq, Nat.succ_ne_zero, elemsC, Int.reduceToNat, Nat.reducePow]) | (simp (disch := (first | omega | (simp only [AL, List.length_map]; omega))) only [AR, AL, ifT, ifF, take_all, List.length_cons, List.length_nil, Int.reduceToNat, Int.reducePow, Nat.reducePow]) | (refine wk_intro (by kernel_rfl) ?_) | (refine vf_of (by first | exact r | exact fi) ?_))
  refine vp_loop_inv (fun s => s.tmp 0 = .sv (.int .i64 (a : Int)) ∧ s.tmp 1 = .sv (.int .i64 (b : Int)) ∧ s.tmp 3 = .sv (.int .i64 (w : Int)) ∧ s.tmp 8 = .ptr 8 0 0 ∧ s.obj 8 0 = some [.sl 0 [], .sl 0 []] ∧ s.tmp 9 = .ptr 9 0 0 ∧ s.obj 9 0 = some [natV (lim y1), natV (lim (y1 + 1))] ∧ s.tmp 10 = .ptr 10 0 0 ∧ s.tmp 11 = .ptr 11 0 0 ∧
      ∃ f k t1 t2 a1 a2 : Nat, s.tmp 12 = .sv (.int .i64 (k : Int)) ∧ f + k = 2201 ∧ rowGo w y1 (y1 + 1) a b f k t1 t2 a1 a2 = some (A', B', K) ∧ s.obj 10 0 = some [natV (lim t1), natV (lim t2)] ∧ s.obj 11 0 = some [natV (lim a1), natV (lim a2)] ∧
        okK w b (2 ^ (w + 25)) (2 ^ 69) k t1 t2 a1 a2)
    (fun s => match s.tmp 12 with | .sv (.int _ i) => 2202 - i.toNat | _ => 0) ⟨rfl, rfl, rfl, rfl, rfl, rfl, rfl, rfl, rfl, 2201, 0, F1, F2, F1, F2, rfl, rfl, hg, rfl, rfl, ok⟩ ?_
  rintro s ⟨i0, i1, i3, i8, o8, i9, o9, i10, i11, f, k, t1, t2, a1, a2, i12, hfk, hgo, o10, o11, hok⟩
  obtain ⟨lt1, lt2, la1, la2⟩ := lens k t1 t2 a1 a2 (by omega) hok
  have st := step k t1 t2 a1 a2 hok
  have sm := fix_Small (a := t1) (b := t2) (by omega) (k := 3) (by omega)
  clear hP hp25 e65 hC g1 g2 g3
  cases f with
  | zero => simp only [rowGo] at hgo; cases hgo
  | succ f =>
    rw [rowGo] at hgo
    by_cases hs : b ≤ k ∧ t2 < 8
    · rw [if_pos hs] at hgo
      simp only [Option.some.injEq, Prod.mk.injEq] at hgo
      obtain ⟨rfl, rfl, rfl⟩ := hgo
      rw [decide_eq_true (show t2 < 2 ^ 3 from hs.2)] at sm
      have hs1 := hs.1
      have wd := fix_Wider (a := a1) (b := a2) (n := 64) (by omega) (by omega) (by omega)
      clear step lens st hs hg
      repeat (first | (simp only [go_sem, Nat.reduceEqDiff, Nat.reduceAdd, Nat.reduceSub, Nat.reduceMul, Nat.reduceLeDiff, Nat.reduceLT, reduceIte, reduceCtorEq, Nat.succ_ne_zero, elemsC, Int.reduceToNat, Nat.reducePow, i0, i1, i3, i8, o8, i9, o9, i10, i11, i12, o10, o11, Bool.not_true]) | (simp (disch := (first | omega | (simp only [AL, List.length_map]; omega))) only [AR, AL, ifT, ifF, take_all, List.length_cons, List.length_nil, Int.reduceToNat, Int.reducePow, Nat.reducePow, i0, i1, i3, i8, o8, i9, o9, i10, i11, i12, o10, o11, Bool.not_true]) | (refine wk_intro (by kernel_rfl) ?_) | (refine vf_of (by first | exact sm | exact wd) ?_))
    · rw [if_neg hs] at hgo
      obtain ⟨lu1, lu2, lb1, lb2⟩ := lens (k + 1) _ _ _ _ (by omega) st
      have mu := fix_Mul (a := t1) (b := t2) (c := y1) (d := y1 + 1) (w := w) (by omega) (by omega) (by omega) (by omega) (by omega) (by omega)
      have q1 := nat_Of (a + b + 2 * k) (by omega)
      have q2 := nat_Of (a + 2 + 2 * k) (by omega)
      have lq1 : (lim (a + b + 2 * k)).length ≤ 1 := lim_len_one (by omega)
      have lq2 : (lim (a + 2 + 2 * k)).length ≤ 1 := lim_len_one (by omega)
      have z1 := lim_len_mul (a := t1) (b := y1)
      have z2 := lim_len_mul (a := t2) (b := y1 + 1)
      have z3 := lim_len_mono (Nat.div_le_self (t1 * y1) (2 ^ w))
      have l1 := lim_len1
      have z4 := lim_len_add (a := t2 * (y1 + 1) / 2 ^ w) (b := 1) (L := 200) (Nat.le_trans (lim_len_mono (Nat.div_le_self (t2 * (y1 + 1)) (2 ^ w))) (by omega)) (by omega)
      have ti := fix_Times (a := t1 * y1 / 2 ^ w) (b := t2 * (y1 + 1) / 2 ^ w + 1) (n := a + b + 2 * k) (d := a + 2 + 2 * k) (by omega) (by omega) (by omega) (by omega) (by omega)
      rw [show ((a + b + 2 * k : Nat) : Int) = (a : Int) + (b : Int) + 2 * (k : Int) by omega] at q1
      rw [show ((a + 2 + 2 * k : Nat) : Int) = (a : Int) + 2 + 2 * (k : Int) by omega] at q2
      generalize t1 * y1 / 2 ^ w * (a + b + 2 * k) / (a + 2 + 2 * k) = u1 at *
      generalize (t2 * (y1 + 1) / 2 ^ w + 1) * (a + b + 2 * k) / (a + 2 + 2 * k) + 1 = u2 at *
      generalize t1 * y1 / 2 ^ w = v1 at *
      generalize t2 * (y1 + 1) / 2 ^ w + 1 = v2 at *
      have ad := fix_Add (a := a1) (b := a2) (c := u1) (d := u2) (by omega) (by omega) (by omega) (by omega)
      clear step lens hg
      by_cases hk : b ≤ k
      · rw [decide_eq_false (show ¬ t2 < 2 ^ 3 from fun h => hs ⟨hk, h⟩)] at sm
        repeat (first | (simp only [go_sem, Nat.reduceEqDiff, Nat.reduceAdd, Nat.reduceSub, Nat.reduceMul, Nat.reduceLeDiff, Nat.reduceLT, reduceIte, reduceCtorEq, Nat.succ_ne_zero, elemsC, Int.reduceToNat, Nat.reducePow, i0, i1, i3, i8, o8, i9, o9, i10, i11, i12, o10, o11, Bool.not_false]) | (simp (disch := (first | omega | (simp only [AL, List.length_map]; omega))) only [AR, AL, ifT, ifF, take_all, List.length_cons, List.length_nil, Int.reduceToNat, Int.reducePow, Nat.reducePow, i0, i1, i3, i8, o8, i9, o9, i10, i11, i12, o10, o11, Bool.not_false]) | (refine wk_intro (by kernel_rfl) ?_) | (refine vf_of (by first | exact sm | exact mu | exact q1 | exact q2 | exact ti | exact ad) ?_))
        exact ⟨⟨f, k + 1, u1, u2, a1 + u1, a2 + u2, rfl, by omega, hgo, rfl, rfl, st⟩, by omega⟩
      · repeat (first | (simp only [go_sem, Nat.reduceEqDiff, Nat.reduceAdd, Nat.reduceSub, Nat.reduceMul, Nat.reduceLeDiff, Nat.reduceLT, reduceIte, reduceCtorEq, Nat.succ_ne_zero, elemsC, Int.reduceToNat, Nat.reducePow, i0, i1, i3, i8, o8, i9, o9, i10, i11, i12, o10, o11]) | (simp (disch := (first | omega | (simp only [AL, List.length_map]; omega))) only [AR, AL, ifT, ifF, take_all, List.length_cons, List.length_nil, Int.reduceToNat, Int.reducePow, Nat.reducePow, i0, i1, i3, i8, o8, i9, o9, i10, i11, i12, o10, o11]) | (refine wk_intro (by kernel_rfl) ?_))
        repeat (first | (simp only [go_sem, Nat.reduceEqDiff, Nat.reduceAdd, Nat.reduceSub, Nat.reduceMul, Nat.reduceLeDiff, Nat.reduceLT, reduceIte, reduceCtorEq, Nat.succ_ne_zero, elemsC, Int.reduceToNat, Nat.reducePow, i0, i1, i3, i8, o8, i9, o9, i10, i11, i12, o10, o11]) | (simp (disch := (first | omega | (simp only [AL, List.length_map]; omega))) only [AR, AL, ifT, ifF, take_all, List.length_cons, List.length_nil, Int.reduceToNat, Int.reducePow, Nat.reducePow, i0, i1, i3, i8, o8, i9, o9, i10, i11, i12, o10, o11]) | (refine wk_intro (by kernel_rfl) ?_) | (refine vf_of (by first | exact mu | exact q1 | exact q2 | exact ti | exact ad) ?_))
        exact ⟨⟨f, k + 1, u1, u2, a1 + u1, a2 + u2, rfl, by omega, hgo, rfl, rfl, st⟩, by omega⟩
end
end Go.Proofs.YtodiciendlhkgaaGreat

/- incb.row of whole numbers, in the evaluator. -/
namespace Go.Proofs.YtodiciendlhkgaaGreat
set_option linter.unusedSimpArgs false
set_option linter.unusedVariables false
set_option maxRecDepth 8000
open Go.Ev
theorem num_den' (q : Rat) : q * (q.den : Rat) = (q.num : Rat) := by
  have h : mkRat q.num q.den * (q.den : Rat) = (q.num : Rat) := by
    rw [Rat.mkRat_eq_div]
    refine Rat.div_mul_cancel ?_
    have : (0 : Rat) < (q.den : Rat) := by exact_mod_cast q.den_pos
    grind
  rwa [Rat.mkRat_self] at h
section
variable {x : Rat} {A B w : Nat}
/-- The first term is not too great, and known well. -/
theorem fs_ok (hA : 1 ≤ A) (hB : 1 ≤ B) (hAB : A + B ≤ 10) (h0 : 0 ≤ x) (h1 : x ≤ 1) (hw0 : 60 ≤ w) : okK w (2 * B) (2 ^ (w + 9)) (2 ^ 54) 0 (fsN x A B w).1 (fsN x A B w).2 (fsN x A B w).1 (fsN x A B w).2 := by
  have k1 := okS_pw (A := A) (w := w) h0 h1 (by omega)
  have k2 := okS_pw (q := 1 - x) (A := B) (w := w) (by grind) (by grind) (by omega)
  have hP : 2 ^ 60 ≤ 2 ^ w := Nat.pow_le_pow_right (n := 2) (by omega) hw0
  have k3 := okS_mul (by omega) (by omega) (by omega) k1 k2
  obtain ⟨-, -, e3⟩ := beta_ok hA hB hAB
  have hp9 : 2 ^ (w + 9) = 2 ^ w * 512 := by rw [Nat.pow_add]
  obtain ⟨g1, g2, g3⟩ := k3
  unfold okK
  rw [Nat.zero_min, Nat.pow_zero, Nat.one_mul, Nat.one_mul]
  generalize hM1 : (pwN x A w).1 * (pwN (1 - x) B w).1 / 2 ^ w = M1 at *
  generalize hM2 : (pwN x A w).2 * (pwN (1 - x) B w).2 / 2 ^ w + 1 = M2 at *
  have f1 : (fsN x A B w).1 = M1 * cc (B - 1) A := by rw [← hM1]
  have f2 : (fsN x A B w).2 = M2 * cc (B - 1) A + 1 := by rw [← hM2]
  rw [f1, f2]
  generalize cc (B - 1) A = c at *
  have x1 := Nat.mul_le_mul_right c g1
  have x2 : M2 * c ≤ (M1 + 2046) * c := Nat.mul_le_mul_right c (by omega)
  have x3 : M2 * c ≤ (2 ^ w + 2046) * 128 := Nat.mul_le_mul (by omega) e3
  have x4 : 2046 * c ≤ 2046 * 128 := Nat.mul_le_mul_left _ e3
  rw [Nat.add_mul] at x2
  refine ⟨?_, ?_, ?_, ?_, ?_, ?_⟩ <;> omega
/-- The row of whole numbers ends. -/
theorem row_ends (hA : 1 ≤ A) (hB : 1 ≤ B) (hAB : A + B ≤ 10) (h0 : 0 ≤ x) (h1 : x + x ≤ 1) (hw0 : 60 ≤ w) (hw : w ≤ 400) : 200 ≤ 2 ^ w ∧ 2 * unN x w ≤ 2 ^ w ∧ ∃ a b K, rowGo w (unN x w) (unN x w + 1) (2 * A) (2 * B) 2201 0 (fsN x A B w).1 (fsN x A B w).2 (fsN x A B w).1 (fsN x A B w).2 = some (a, b, K) := by
  have hP : 2 ^ 60 ≤ 2 ^ w := Nat.pow_le_pow_right (n := 2) (by omega) hw0
  have hy : 2 * unN x w ≤ 2 ^ w := by
    have h2 : 2 * x.num.natAbs ≤ x.den := by
      have := num_den' x
      have d0 : (0 : Rat) < (x.den : Rat) := by exact_mod_cast x.den_pos
      have h3 := Rat.mul_le_mul_of_nonneg_right h1 (show (0 : Rat) ≤ (x.den : Rat) by grind)
      have h4 : (x.num : Rat) + (x.num : Rat) ≤ (x.den : Rat) := by grind
      have h5 : ((x.num + x.num : Int) : Rat) ≤ (((x.den : Nat) : Int) : Rat) := by rw [Rat.intCast_add]; exact h4
      have h6 := Rat.intCast_le_intCast.1 h5
      have h7 := Rat.num_nonneg.2 h0
      omega
    have h3 := Nat.div_mul_le_self (x.num.natAbs * 2 ^ w) x.den
    have h4 := Nat.mul_le_mul_right (2 ^ w) h2
    have h5 : 2 * unN x w * x.den ≤ 2 ^ w * x.den := by
      have e1 : 2 * unN x w * x.den = 2 * (x.num.natAbs * 2 ^ w / x.den * x.den) := by rw [Nat.mul_assoc]
      have e2 : 2 * x.num.natAbs * 2 ^ w = 2 * (x.num.natAbs * 2 ^ w) := by rw [Nat.mul_assoc]
      rw [Nat.mul_comm (2 ^ w)]
      omega
    exact Nat.le_of_mul_le_mul_right h5 x.den_pos
  refine ⟨by omega, hy, ?_⟩
  have ok := fs_ok hA hB hAB h0 (show x ≤ 1 by grind) hw0
  unfold okK at ok
  rw [Nat.zero_min, Nat.pow_zero, Nat.one_mul, Nat.one_mul] at ok
  have hp9 : 2 ^ (w + 9) = 2 ^ w * 512 := by rw [Nat.pow_add]
  have h40 : 4 ^ (2 * B) ≤ 4 ^ 18 := Nat.pow_le_pow_right (by omega) (by omega)
  have hC : 4 ^ (2 * B) * 2 ^ (w + 9) ≤ 2 ^ 49 * 2 ^ w := by
    rw [hp9, Nat.mul_comm (2 ^ w) 512, ← Nat.mul_assoc]
    exact Nat.mul_le_mul_right _ (Nat.le_trans (Nat.mul_le_mul_right 512 h40) (by decide))
  have hF : 4 ^ 2000 * (4 ^ (2 * B) * 2 ^ (w + 9)) < 8 * 5 ^ 2000 := by
    obtain ⟨E, hE⟩ : ∃ E : Nat, E = 449 := ⟨_, rfl⟩
    have h49 : 2 ^ 49 * 2 ^ w ≤ 2 ^ E := by rw [← Nat.pow_add]; exact Nat.pow_le_pow_right (by omega) (by omega)
    obtain ⟨N4, hN4⟩ : ∃ N, N = 4 ^ 2000 := ⟨_, rfl⟩
    obtain ⟨N5, hN5⟩ : ∃ N, N = 5 ^ 2000 := ⟨_, rfl⟩
    rw [← hN4, ← hN5]
    have hk : N4 * 2 ^ E < 8 * N5 := by rw [hN4, hN5, hE]; decide +kernel
    exact Nat.lt_of_le_of_lt (Nat.mul_le_mul_left _ (Nat.le_trans hC h49)) hk
  exact row_early (a := 2 * A) (b := 2 * B) (F := 2000) (C := 2 ^ 49) (by omega) rfl hy (by omega) (by omega) (2 * B) 0 _ _ _ _ _ _ (by omega) (by omega) hC (by decide) hF ok
set_option maxHeartbeats 1000000 in
theorem incb_row {L A' B' K : Nat} (hA : 1 ≤ A) (hB : 1 ≤ B) (hAB : A + B ≤ 10) (hz : szR x L) (hL1 : 1 ≤ L) (hL : L ≤ 3) (h0 : 0 ≤ x) (h1 : x + x ≤ 1) (hw0 : 60 ≤ w) (hw : w ≤ 400)
    (hg : rowGo w (unN x w) (unN x w + 1) (2 * A) (2 * B) 2201 0 (fsN x A B w).1 (fsN x A B w).2 (fsN x A B w).1 (fsN x A B w).2 = some (A', B', K)) :
    Go.Ev.Fn CX 81 [.int .i64 (2 * (A : Int)), .int .i64 (2 * (B : Int)), rv x, .int .i64 (w : Int)] (spanV A' B') := by
  obtain ⟨hP, hy, -⟩ := row_ends hA hB hAB h0 h1 hw0 hw
  have r : Go.Ev.Fn CX 128 [rv x, .int .i64 (w : Int)] (spanV (unN x w) (unN x w + 1)) := fix_Rat hz (by omega) (w := w) (by omega)
  obtain ⟨ly1, ly2⟩ := unN_len hz (by omega) (show w ≤ 900 by omega)
  have fi := incb_first (w := w) hA hB hAB hz hL1 hL h0 (show x ≤ 1 by grind) (by omega) (by omega)
  have ok := fs_ok hA hB hAB h0 (show x ≤ 1 by grind) hw0
  have hp9 : 2 ^ (w + 9) = 2 ^ w * 512 := by rw [Nat.pow_add]
  have h40 : 4 ^ (2 * B) ≤ 4 ^ 18 := Nat.pow_le_pow_right (by omega) (by omega)
  have hC : 4 ^ (2 * B) * 2 ^ (w + 9) ≤ 2 ^ 49 * 2 ^ w := by
    rw [hp9, Nat.mul_comm (2 ^ w) 512, ← Nat.mul_assoc]
    exact Nat.mul_le_mul_right _ (Nat.le_trans (Nat.mul_le_mul_right 512 h40) (by decide))
  have hC2 : 4 ^ (2 * B) * 2 ^ (w + 9) ≤ 2 ^ (w + 49) := by
    have e49 : 2 ^ (w + 49) = 2 ^ 49 * 2 ^ w := by rw [Nat.pow_add, Nat.mul_comm]
    rw [e49]; exact hC
  have step := fun (k t1 t2 a1 a2 : Nat) (h : okK w (2 * B) (2 ^ (w + 9)) (2 ^ 54) k t1 t2 a1 a2) => okK_step (a := 2 * A) (y1 := unN x w) (y2 := unN x w + 1) (C := 2 ^ 49) hP rfl hy (by omega) (by omega) (by omega) hC (by decide) h
  have lens := fun (k t1 t2 a1 a2 : Nat) (hk : k ≤ 2201) (h : okK w (2 * B) (2 ^ (w + 9)) (2 ^ 54) k t1 t2 a1 a2) => (show (lim t1).length ≤ 40 ∧ (lim t2).length ≤ 40 ∧ (lim a1).length ≤ 40 ∧ (lim a2).length ≤ 40 from by
    obtain ⟨q1, q2, q3, q4, q5, q6⟩ := h
    have f := (four_le (k := k) (b := 2 * B) (T := 2 ^ (w + 9))).2
    have b1 : (k + 1) * (4 ^ min k (2 * B) * 2 ^ (w + 9)) ≤ 4096 * 2 ^ (w + 49) := Nat.mul_le_mul (by omega) (Nat.le_trans f hC2)
    have b2 : 4096 * 2 ^ (w + 49) = 2 ^ (w + 61) := by rw [show w + 61 = 12 + (w + 49) by omega, Nat.pow_add 2 12]
    have b3 : 2 ^ (w + 49) ≤ 2 ^ (w + 61) := Nat.pow_le_pow_right (by omega) (by omega)
    exact ⟨lim_len_p2 (w := w + 61) (by omega) (by omega), lim_len_p2 (w := w + 61) (by omega) (by omega), lim_len_p2 (w := w + 61) (by omega) (by omega), lim_len_p2 (w := w + 61) (by omega) (by omega)⟩)
  generalize (fsN x A B w).1 = F1 at *
  generalize (fsN x A B w).2 = F2 at *
  generalize unN x w = y1 at *
  clear hz h0 h1
  refine Go.Ev.Fn.intro (fn := Tryz.f81) (body := (Tryz.f81).body.get!) (by kernel_rfl) (by kernel_rfl) (by kernel_rfl) (fun _ => rfl) (Nat.le_of_ble_eq_true (by kernel_rfl)) ?_; unfold Tryz.f81; simp only [Option.get!_some]
  repeat (first | (simp only [go_sem, Nat.reduceEqDiff, Nat.reduceAdd, Nat.reduceSub, Nat.reduceMul, Nat.reduceLeDiff, Nat.reduceLT, reduceIte, reduceCtorEq, Nat.succ_ne_zero, elemsC, Int.reduceToNat, Nat.reducePow]) | (simp (disch := (first | omega | (simp only [AL, List.length_map]; omega))) only [AR, AL, ifT, ifF, take_all, List.length_cons, List.length_nil, Int.reduceToNat, Int.reducePow, Nat.reducePow]) | (refine wk_intro (by kernel_rfl) ?_) | (refine vf_of (by first | exact r | exact fi) ?_))
  refine vp_loop_inv (fun s => s.tmp 0 = .sv (.int .i64 (2 * (A : Int))) ∧ s.tmp 1 = .sv (.int .i64 (2 * (B : Int))) ∧ s.tmp 3 = .sv (.int .i64 (w : Int)) ∧ s.tmp 8 = .ptr 8 0 0 ∧ s.obj 8 0 = some [.sl 0 [], .sl 0 []] ∧ s.tmp 9 = .ptr 9 0 0 ∧ s.obj 9 0 = some [natV (lim y1), natV (lim (y1 + 1))] ∧ s.tmp 10 = .ptr 10 0 0 ∧ s.tmp 11 = .ptr 11 0 0 ∧
      ∃ f k t1 t2 a1 a2 : Nat, s.tmp 12 = .sv (.int .i64 (k : Int)) ∧ f + k = 2201 ∧ rowGo w y1 (y1 + 1) (2 * A) (2 * B) f k t1 t2 a1 a2 = some (A', B', K) ∧ s.obj 10 0 = some [natV (lim t1), natV (lim t2)] ∧ s.obj 11 0 = some [natV (lim a1), natV (lim a2)] ∧
        okK w (2 * B) (2 ^ (w + 9)) (2 ^ 54) k t1 t2 a1 a2)
    (fun s => match s.tmp 12 with | .sv (.int _ i) => 2202 - i.toNat | _ => 0) ⟨rfl, rfl, rfl, rfl, rfl, rfl, rfl, rfl, rfl, 2201, 0, F1, F2, F1, F2, rfl, rfl, hg, rfl, rfl, ok⟩ ?_
  rintro s ⟨i0, i1, i3, i8, o8, i9, o9, i10, i11, f, k, t1, t2, a1, a2, i12, hfk, hgo, o10, o11, hok⟩
  obtain ⟨lt1, lt2, la1, la2⟩ := lens k t1 t2 a1 a2 (by omega) hok
  have st := step k t1 t2 a1 a2 hok
  have sm := fix_Small (a := t1) (b := t2) (by omega) (k := 3) (by omega)
  cases f with
  | zero => simp only [rowGo] at hgo; cases hgo
  | succ f =>
    rw [rowGo] at hgo
    by_cases hs : 2 * B ≤ k ∧ t2 < 8
    · rw [if_pos hs] at hgo
      simp only [Option.some.injEq, Prod.mk.injEq] at hgo
      obtain ⟨rfl, rfl, rfl⟩ := hgo
      rw [decide_eq_true (show t2 < 2 ^ 3 from hs.2)] at sm
      have hs1 := hs.1
      have wd := fix_Wider (a := a1) (b := a2) (n := 64) (by omega) (by omega) (by omega)
      clear step lens st hs hg
      repeat (first | (simp only [go_sem, Nat.reduceEqDiff, Nat.reduceAdd, Nat.reduceSub, Nat.reduceMul, Nat.reduceLeDiff, Nat.reduceLT, reduceIte, reduceCtorEq, Nat.succ_ne_zero, elemsC, Int.reduceToNat, Nat.reducePow, i0, i1, i3, i8, o8, i9, o9, i10, i11, i12, o10, o11, Bool.not_true]) | (simp (disch := (first | omega | (simp only [AL, List.length_map]; omega))) only [AR, AL, ifT, ifF, take_all, List.length_cons, List.length_nil, Int.reduceToNat, Int.reducePow, Nat.reducePow, i0, i1, i3, i8, o8, i9, o9, i10, i11, i12, o10, o11, Bool.not_true]) | (refine wk_intro (by kernel_rfl) ?_) | (refine vf_of (by first | exact sm | exact wd) ?_))
    · rw [if_neg hs] at hgo
      obtain ⟨lu1, lu2, lb1, lb2⟩ := lens (k + 1) _ _ _ _ (by omega) st
      have mu := fix_Mul (a := t1) (b := t2) (c := y1) (d := y1 + 1) (w := w) (by omega) (by omega) (by omega) (by omega) (by omega) (by omega)
      have q1 := nat_Of (2 * A + 2 * B + 2 * k) (by omega)
      have q2 := nat_Of (2 * A + 2 + 2 * k) (by omega)
      have lq1 : (lim (2 * A + 2 * B + 2 * k)).length ≤ 1 := lim_len_one (by omega)
      have lq2 : (lim (2 * A + 2 + 2 * k)).length ≤ 1 := lim_len_one (by omega)
      have z1 := lim_len_mul (a := t1) (b := y1)
      have z2 := lim_len_mul (a := t2) (b := y1 + 1)
      have z3 := lim_len_mono (Nat.div_le_self (t1 * y1) (2 ^ w))
      have l1 := lim_len1
      have z4 := lim_len_add (a := t2 * (y1 + 1) / 2 ^ w) (b := 1) (L := 200) (Nat.le_trans (lim_len_mono (Nat.div_le_self (t2 * (y1 + 1)) (2 ^ w))) (by omega)) (by omega)
      have ti := fix_Times (a := t1 * y1 / 2 ^ w) (b := t2 * (y1 + 1) / 2 ^ w + 1) (n := 2 * A + 2 * B + 2 * k) (d := 2 * A + 2 + 2 * k) (by omega) (by omega) (by omega) (by omega) (by omega)
      rw [show ((2 * A + 2 * B + 2 * k : Nat) : Int) = 2 * (A : Int) + 2 * (B : Int) + 2 * (k : Int) by omega] at q1
      rw [show ((2 * A + 2 + 2 * k : Nat) : Int) = 2 * (A : Int) + 2 + 2 * (k : Int) by omega] at q2
      generalize t1 * y1 / 2 ^ w * (2 * A + 2 * B + 2 * k) / (2 * A + 2 + 2 * k) = u1 at *
      generalize (t2 * (y1 + 1) / 2 ^ w + 1) * (2 * A + 2 * B + 2 * k) / (2 * A + 2 + 2 * k) + 1 = u2 at *
      generalize t1 * y1 / 2 ^ w = v1 at *
      generalize t2 * (y1 + 1) / 2 ^ w + 1 = v2 at *
      have ad := fix_Add (a := a1) (b := a2) (c := u1) (d := u2) (by omega) (by omega) (by omega) (by omega)
      clear step lens hg
      by_cases hk : 2 * B ≤ k
      · rw [decide_eq_false (show ¬ t2 < 2 ^ 3 from fun h => hs ⟨hk, h⟩)] at sm
        repeat (first | (simp only [go_sem, Nat.reduceEqDiff, Nat.reduceAdd, Nat.reduceSub, Nat.reduceMul, Nat.reduceLeDiff, Nat.reduceLT, reduceIte, reduceCtorEq, Nat.succ_ne_zero, elemsC, Int.reduceToNat, Nat.reducePow, i0, i1, i3, i8, o8, i9, o9, i10, i11, i12, o10, o11, Bool.not_false]) | (simp (disch := (first | omega | (simp only [AL, List.length_map]; omega))) only [AR, AL, ifT, ifF, take_all, List.length_cons, List.length_nil, Int.reduceToNat, Int.reducePow, Nat.reducePow, i0, i1, i3, i8, o8, i9, o9, i10, i11, i12, o10, o11, Bool.not_false]) | (refine wk_intro (by kernel_rfl) ?_) | (refine vf_of (by first | exact sm | exact mu | exact q1 | exact q2 | exact ti | exact ad) ?_))
        exact ⟨⟨f, k + 1, u1, u2, a1 + u1, a2 + u2, rfl, by omega, hgo, rfl, rfl, st⟩, by omega⟩
      · repeat (first | (simp only [go_sem, Nat.reduceEqDiff, Nat.reduceAdd, Nat.reduceSub, Nat.reduceMul, Nat.reduceLeDiff, Nat.reduceLT, reduceIte, reduceCtorEq, Nat.succ_ne_zero, elemsC, Int.reduceToNat, Nat.reducePow, i0, i1, i3, i8, o8, i9, o9, i10, i11, i12, o10, o11]) | (simp (disch := (first | omega | (simp only [AL, List.length_map]; omega))) only [AR, AL, ifT, ifF, take_all, List.length_cons, List.length_nil, Int.reduceToNat, Int.reducePow, Nat.reducePow, i0, i1, i3, i8, o8, i9, o9, i10, i11, i12, o10, o11]) | (refine wk_intro (by kernel_rfl) ?_))
        repeat (first | (simp only [go_sem, Nat.reduceEqDiff, Nat.reduceAdd, Nat.reduceSub, Nat.reduceMul, Nat.reduceLeDiff, Nat.reduceLT, reduceIte, reduceCtorEq, Nat.succ_ne_zero, elemsC, Int.reduceToNat, Nat.reducePow, i0, i1, i3, i8, o8, i9, o9, i10, i11, i12, o10, o11]) | (simp (disch := (first | omega | (simp only [AL, List.length_map]; omega))) only [AR, AL, ifT, ifF, take_all, List.length_cons, List.length_nil, Int.reduceToNat, Int.reducePow, Nat.reducePow, i0, i1, i3, i8, o8, i9, o9, i10, i11, i12, o10, o11]) | (refine wk_intro (by kernel_rfl) ?_) | (refine vf_of (by first | exact mu | exact q1 | exact q2 | exact ti | exact ad) ?_))
        exact ⟨⟨f, k + 1, u1, u2, a1 + u1, a2 + u2, rfl, by omega, hgo, rfl, rfl, st⟩, by omega⟩
end
end Go.Proofs.YtodiciendlhkgaaGreat

/- What the row of whole numbers tells has the share, and is narrow: plain mathematics. -/
namespace Go.Proofs.YtodiciendlhkgaaGreat
open Go.Ev
set_option linter.unusedVariables false
section
variable {x y : Rat}
theorem sS_total (h : x + y = 1) : ∀ n, sS x y n (n + 1) = 1 := by
  intro n
  induction n with
  | zero =>
    show 0 + trm x y 0 0 = 1
    unfold trm
    rw [cc_zero]
    show (0 : Rat) + ((1 : Nat) : Rat) * 1 * 1 = 1
    decide +kernel
  | succ n ih =>
    have h1 := sS_step (x := x) (y := y) (n := n) n (Nat.le_refl _)
    have h2 : sS x y n (n + 1) = sS x y n n + trm x y n n := rfl
    have t1 : trm x y n n = pwR y n := by
      unfold trm
      rw [Nat.sub_self, show cc 0 n = 1 by simp [cc]]
      show ((1 : Nat) : Rat) * 1 * pwR y n = _
      have : ((1 : Nat) : Rat) = 1 := rfl
      rw [this]; grind
    have t2 : trm x y (n + 1) (n + 1) = pwR y n * y := by
      unfold trm
      rw [Nat.sub_self, show cc 0 (n + 1) = 1 by simp [cc], pwR_succ]
      show ((1 : Nat) : Rat) * 1 * _ = _
      have : ((1 : Nat) : Rat) = 1 := rfl
      rw [this]; grind
    show sS x y (n + 1) (n + 1) + trm x y (n + 1) (n + 1) = 1
    rw [h1, t2]
    rw [t1] at h2
    rw [ih] at h2 ⊢
    have e : x = 1 - y := by grind
    rw [e]
    grind
theorem trm_turn {n i : Nat} (h : i ≤ n) : trm x y n i = trm y x n (n - i) := by
  unfold trm
  rw [show n - (n - i) = i by omega, cc_symm]
  grind
theorem sS_turn (h : x + y = 1) {n : Nat} : ∀ j, j ≤ n + 1 → sS x y n j + sS y x n (n + 1 - j) = 1 := by
  intro j
  induction j with
  | zero =>
    intro _
    show 0 + sS y x n (n + 1) = 1
    rw [sS_total (by grind)]; grind
  | succ j ih =>
    intro hj
    have h1 := ih (by omega)
    have h2 := trm_turn (x := x) (y := y) (n := n) (i := j) (by omega)
    have h3 : sS y x n (n + 1 - j) = sS y x n (n - j) + trm y x n (n - j) := by
      rw [show n + 1 - j = (n - j) + 1 by omega]; rfl
    show sS x y n j + trm x y n j + sS y x n (n + 1 - (j + 1)) = 1
    rw [show n + 1 - (j + 1) = n - j by omega, h2]
    grind
theorem pwR_den {q : Rat} {X D : Nat} (h : q * (D : Rat) = (X : Rat)) : ∀ n, pwR q n * ((D ^ n : Nat) : Rat) = ((X ^ n : Nat) : Rat)
  | 0 => by show (1 : Rat) * ((1 : Nat) : Rat) = ((1 : Nat) : Rat); rw [Rat.one_mul]
  | n + 1 => by
    have ih := pwR_den h n
    rw [pwR_succ, Nat.pow_succ, Nat.pow_succ, cm, cm, ← ih, ← h]
    grind
theorem sS_den {X F D n : Nat} (hx : x * (D : Rat) = (X : Rat)) (hy : y * (D : Rat) = (F : Rat)) : ∀ k, k ≤ n + 1 → sS y x n k * ((D ^ n : Nat) : Rat) = ((sumN X F n k : Nat) : Rat) := by
  intro k
  induction k with
  | zero => intro _; show (0 : Rat) * _ = ((0 : Nat) : Rat); rw [Rat.zero_mul]; rfl
  | succ k ih =>
    intro hk
    have h1 := ih (by omega)
    have h2 : trm y x n k * ((D ^ n : Nat) : Rat) = ((termN X F n k : Nat) : Rat) := by
      unfold trm termN
      rw [cm, cm, ← pwR_den hx k, ← pwR_den hy (n - k)]
      have e : ((D ^ n : Nat) : Rat) = ((D ^ k : Nat) : Rat) * ((D ^ (n - k) : Nat) : Rat) := by rw [← cm, ← Nat.pow_add, show k + (n - k) = n by omega]
      rw [e]
      grind
    show (sS y x n k + trm y x n k) * _ = ((sumN X F n k + termN X F n k : Nat) : Rat)
    rw [cn, ← h1, ← h2]
    grind
end
theorem cdf_is {x : Rat} (h0 : 0 ≤ x) (h1 : x ≤ 1) {n k : Nat} (hk : 1 ≤ k) (hkn : k ≤ n) : cdfB n ((k : Int) - 1) x = sS (1 - x) x n k := by
  unfold cdfB
  rw [if_neg (by omega), if_neg (by omega), show ((k : Int) - 1).toNat + 1 = k by omega]
  obtain ⟨u1, u2⟩ := unit_num h0 h1
  have hx : x * (x.den : Rat) = ((x.num.natAbs : Nat) : Rat) := by
    rw [num_den' x, ← u2]; rfl
  have hy : (1 - x) * (x.den : Rat) = ((x.den - x.num.natAbs : Nat) : Rat) := by
    have e : ((x.den - x.num.natAbs : Nat) : Rat) + ((x.num.natAbs : Nat) : Rat) = (x.den : Rat) := by rw [← cn]; congr 1; omega
    grind
  have h := sS_den hx hy (n := n) k (by omega)
  have D : (0 : Rat) < ((x.den ^ n : Nat) : Rat) := by exact_mod_cast (den_pos x n)
  have m : mkRat ((sumN x.num.natAbs (x.den - x.num.natAbs) n k : Nat) : Int) (x.den ^ n) * ((x.den ^ n : Nat) : Rat) = ((sumN x.num.natAbs (x.den - x.num.natAbs) n k : Nat) : Rat) := by
    rw [Rat.mkRat_eq_div]
    exact Rat.div_mul_cancel (by grind)
  have e : (mkRat ((sumN x.num.natAbs (x.den - x.num.natAbs) n k : Nat) : Int) (x.den ^ n) - sS (1 - x) x n k) * ((x.den ^ n : Nat) : Rat) = 0 := by
    generalize mkRat ((sumN x.num.natAbs (x.den - x.num.natAbs) n k : Nat) : Int) (x.den ^ n) = z at *
    generalize ((x.den ^ n : Nat) : Rat) = d at *
    grind
  rcases Rat.mul_eq_zero.1 e with g | g
  · grind
  · grind
section
variable {x : Rat} {A B w : Nat}
theorem un_enc {q : Rat} (h0 : 0 ≤ q) (w : Nat) : Enc w (unN q w) (unN q w + 1) q := by
  have D : (0 : Rat) < (q.den : Rat) := by exact_mod_cast q.den_pos
  have f := floor_le (a := q.num.natAbs * 2 ^ w) (d := q.den)
  have g := le_floor (a := q.num.natAbs * 2 ^ w) (d := q.den) q.den_pos
  have e : ((q.num.natAbs * 2 ^ w : Nat) : Rat) = q * p2 w * (q.den : Rat) := by
    rw [cm]
    have h := num_den' q
    have h2 : ((q.num.natAbs : Nat) : Rat) = (q.num : Rat) := by
      have : (q.num.natAbs : Int) = q.num := Int.natAbs_of_nonneg (Rat.num_nonneg.2 h0)
      rw [← this]; rfl
    rw [h2, ← h]
    show q * (q.den : Rat) * p2 w = _
    grind
  rw [e] at f g
  exact ⟨le_by D f, le_by D g⟩
theorem pw_enc {q : Rat} (h0 : 0 ≤ q) (hA : A ≤ 15) : Enc w (pwN q A w).1 (pwN q A w).2 (pwR q A) := by
  have one : Enc w (2 ^ w) (2 ^ w + 1) 1 := by
    refine ⟨by rw [Rat.one_mul]; exact Rat.le_refl, ?_⟩
    rw [Rat.one_mul]
    exact_mod_cast Nat.le_succ (2 ^ w)
  have h := powGo_enc 4 A _ _ _ _ (by omega) one (un_enc h0 w)
  rw [Rat.one_mul] at h
  exact h
theorem fs_enc (h0 : 0 ≤ x) (h1 : x ≤ 1) (hA : A ≤ 15) (hB : B ≤ 15) : Enc w (fsN x A B w).1 (fsN x A B w).2 (((cc (B - 1) A : Nat) : Rat) * (pwR x A * pwR (1 - x) B)) := by
  have m := enc_mul (pw_enc (w := w) h0 hA) (pw_enc (w := w) (q := 1 - x) (by grind) hB)
  have t := enc_times (n := cc (B - 1) A) (d := 1) (by omega) m
  rw [Nat.div_one, Nat.div_one] at t
  have e : pwR x A * pwR (1 - x) B * ((cc (B - 1) A : Nat) : Rat) / ((1 : Nat) : Rat) = ((cc (B - 1) A : Nat) : Rat) * (pwR x A * pwR (1 - x) B) := by
    have : ((1 : Nat) : Rat) = 1 := rfl
    rw [this, Rat.div_def, show (1 : Rat)⁻¹ = 1 from by decide +kernel, Rat.mul_one, Rat.mul_comm]
  rw [e] at t
  exact t
/-- What the row tells has the share, and is narrow. -/
theorem row_has {A' B' K : Nat} (hA : 1 ≤ A) (hB : 1 ≤ B) (hAB : A + B ≤ 10) (h0 : 0 ≤ x) (h1 : x + x ≤ 1) (hw0 : 60 ≤ w) (hw : w ≤ 400)
    (hg : rowGo w (unN x w) (unN x w + 1) (2 * A) (2 * B) 2201 0 (fsN x A B w).1 (fsN x A B w).2 (fsN x A B w).1 (fsN x A B w).2 = some (A', B', K)) :
    (A' : Rat) ≤ sS x (1 - x) (A + B - 1) B * p2 w ∧ sS x (1 - x) (A + B - 1) B * p2 w ≤ (B' : Rat) ∧ B' ≤ A' + 2 ^ 102 ∧ B' ≤ 2 ^ (w + 61) := by
  obtain ⟨hP, hy, -⟩ := row_ends hA hB hAB h0 h1 hw0 hw
  have ok := fs_ok hA hB hAB h0 (show x ≤ 1 by grind) hw0
  have hp9 : 2 ^ (w + 9) = 2 ^ w * 512 := by rw [Nat.pow_add]
  have h40 : 4 ^ (2 * B) ≤ 4 ^ 18 := Nat.pow_le_pow_right (by omega) (by omega)
  have hC : 4 ^ (2 * B) * 2 ^ (w + 9) ≤ 2 ^ 49 * 2 ^ w := by
    rw [hp9, Nat.mul_comm (2 ^ w) 512, ← Nat.mul_assoc]
    exact Nat.mul_le_mul_right _ (Nat.le_trans (Nat.mul_le_mul_right 512 h40) (by decide))
  obtain ⟨i1, i2, i3, i4⟩ := row_inv (a := 2 * A) (b := 2 * B) (C := 2 ^ 49) hP rfl hy (by omega) (by omega) (by omega) hC (by decide) 2201 0 _ _ _ _ hg ok
  have enc := fs_enc (w := w) h0 (show x ≤ 1 by grind) (show A ≤ 15 by omega) (show B ≤ 15 by omega)
  have en1 : Enc w (fsN x A B w).1 (fsN x A B w).2 (((cc (B - 1) A : Nat) : Rat) * (pwR x A * pwR (1 - x) B) * rR x (2 * A) (2 * B) 0) := by
    show Enc _ _ _ (_ * 1)
    rw [Rat.mul_one]; exact enc
  have en2 : Enc w (fsN x A B w).1 (fsN x A B w).2 (((cc (B - 1) A : Nat) : Rat) * (pwR x A * pwR (1 - x) B) * sR x (2 * A) (2 * B) 0) := en1
  obtain ⟨hbK, e1, e2, e3⟩ := row_enc (un_enc h0 w) 2201 0 _ _ _ _ hg en1 en2
  have hxy : x + (1 - x) = 1 := by grind
  have s := sum_is hxy hB hA K
  have nn := sS_nn h0 (show 0 ≤ 1 - x by grind) (A + K + 1 + B - 1) B
  have st := share_step hxy hB (A + K)
  have le := share_le h0 (show x ≤ 1 - x by grind) hxy hB (m := A + K) (by omega)
  have tm := term_is (x := x) (y := 1 - x) hB hA K
  have tn := trm_nn h0 (show 0 ≤ 1 - x by grind) (A + K + B - 1) (B - 1)
  have P := p2_pos w
  rw [← tm] at le st
  rw [s]
  generalize ((cc (B - 1) A : Nat) : Rat) * (pwR x A * pwR (1 - x) B) = c at *
  generalize rR x (2 * A) (2 * B) K = r at *
  generalize sR x (2 * A) (2 * B) K = q at *
  generalize sS x (1 - x) (A + K + 1 + B - 1) B = rem at *
  generalize sS x (1 - x) (A + K + B - 1) B = rem' at *
  have tn2 : 0 ≤ c * r := by rw [tm]; exact Rat.mul_nonneg tn (by grind)
  have hr : rem ≤ 4 * (c * r) := by grind
  have hr2 := Rat.mul_le_mul_of_nonneg_right hr (show 0 ≤ p2 w by grind)
  have nn2 : 0 ≤ rem * p2 w := Rat.mul_nonneg nn (by grind)
  refine ⟨?_, ?_, ?_, ?_⟩
  · grind
  · grind
  · have b1 : (K + 1) * (4 ^ (2 * B) * 2 ^ 54) ≤ 2201 * (4 ^ 18 * 2 ^ 54) := Nat.mul_le_mul (by omega) (Nat.mul_le_mul_right _ h40)
    have b2 : 2201 * (4 ^ 18 * 2 ^ 54) + 64 ≤ 2 ^ 102 := by decide
    omega
  · have b1 : (K + 1) * (4 ^ (2 * B) * 2 ^ (w + 9)) ≤ 2201 * (2 ^ 49 * 2 ^ w) := Nat.mul_le_mul (by omega) hC
    have b2 : 2 ^ (w + 61) = 4096 * (2 ^ 49 * 2 ^ w) := by rw [show w + 61 = 12 + (49 + w) by omega, Nat.pow_add, Nat.pow_add]
    have b3 : 64 ≤ 2 ^ 49 * 2 ^ w := Nat.le_trans (by decide) (Nat.le_mul_of_pos_right (2 ^ 49) (by omega))
    omega
theorem p2_ad (a b : Nat) : p2 (a + b) = p2 a * p2 b := by
  show ((2 ^ (a + b) : Nat) : Rat) = ((2 ^ a : Nat) : Rat) * ((2 ^ b : Nat) : Rat)
  rw [← cm, ← Nat.pow_add]
theorem told_has {A' B' p : Nat} {V : Rat} (h1 : (A' : Rat) ≤ V * p2 (p + 300)) (h2 : V * p2 (p + 300) ≤ (B' : Rat)) (h3 : B' ≤ A' + 2 ^ 102) :
    mkRat ((A' / 2 ^ (p + 300 - (p + 2)) : Nat) : Int) (2 ^ (p + 2)) ≤ V ∧ V ≤ mkRat ((B' / 2 ^ (p + 300 - (p + 2)) + 1 : Nat) : Int) (2 ^ (p + 2)) ∧
      (mkRat ((B' / 2 ^ (p + 300 - (p + 2)) + 1 : Nat) : Int) (2 ^ (p + 2)) - mkRat ((A' / 2 ^ (p + 300 - (p + 2)) : Nat) : Int) (2 ^ (p + 2))) * p2 p ≤ 1 := by
  have P1 := p2_pos (p + 2)
  have P2 := p2_pos 298
  rw [show p + 300 - (p + 2) = 298 by omega]
  have m : ∀ a : Nat, mkRat (a : Int) (2 ^ (p + 2)) * p2 (p + 2) = (a : Rat) := by
    intro a
    rw [Rat.mkRat_eq_div]
    exact Rat.div_mul_cancel (by have : (0 : Rat) < ((2 ^ (p + 2) : Nat) : Rat) := P1; grind)
  have hsp : p2 (p + 300) = p2 (p + 2) * p2 298 := by rw [show p + 300 = (p + 2) + 298 by omega, p2_ad]
  have f := floor_le (a := A') (d := 2 ^ 298)
  have g := le_floor (a := B') (d := 2 ^ 298) (Nat.pow_pos (by omega))
  have m1 := m (A' / 2 ^ 298)
  have m2 := m (B' / 2 ^ 298 + 1)
  have gap : B' / 2 ^ 298 ≤ A' / 2 ^ 298 + 1 := by
    obtain ⟨E, hE⟩ : ∃ E : Nat, E = 298 := ⟨_, rfl⟩
    have h6 : 2 ^ 102 ≤ 2 ^ E := Nat.pow_le_pow_right (by omega) (by omega)
    have h4 : B' ≤ A' + 2 ^ E := Nat.le_trans h3 (Nat.add_le_add_left h6 _)
    have h5 := Nat.div_le_div_right (c := 2 ^ E) h4
    rw [Nat.add_div_right _ (Nat.pow_pos (by omega)), hE] at h5
    exact h5
  have gapR : ((B' / 2 ^ 298 + 1 : Nat) : Rat) ≤ ((A' / 2 ^ 298 : Nat) : Rat) + 2 := by
    have : ((A' / 2 ^ 298 : Nat) : Rat) + 2 = ((A' / 2 ^ 298 + 2 : Nat) : Rat) := by exact_mod_cast rfl
    rw [this]
    exact_mod_cast (show B' / 2 ^ 298 + 1 ≤ A' / 2 ^ 298 + 2 by omega)
  have hp2 : p2 (p + 2) = p2 p * 4 := by
    show ((2 ^ (p + 2) : Nat) : Rat) = ((2 ^ p : Nat) : Rat) * ((4 : Nat) : Rat)
    rw [← cm, Nat.pow_add]
  change _ * p2 298 ≤ _ at f
  change _ ≤ _ * p2 298 at g
  generalize mkRat ((A' / 2 ^ 298 : Nat) : Int) (2 ^ (p + 2)) = q1 at *
  generalize mkRat ((B' / 2 ^ 298 + 1 : Nat) : Int) (2 ^ (p + 2)) = q2 at *
  refine ⟨le_by P1 ?_, le_by P1 ?_, ?_⟩
  · rw [m1]
    refine le_by P2 ?_
    have : V * p2 (p + 2) * p2 298 = V * p2 (p + 300) := by rw [hsp]; grind
    rw [this]; exact Rat.le_trans f h1
  · rw [m2]
    refine le_by P2 ?_
    have : V * p2 (p + 2) * p2 298 = V * p2 (p + 300) := by rw [hsp]; grind
    rw [this]; exact Rat.le_trans h2 g
  · rw [hp2] at m1 m2
    grind
end
end Go.Proofs.YtodiciendlhkgaaGreat

/- slices.Equal, rat.Same; incb.I of whole numbers, in the evaluator. -/
namespace Go.Proofs.YtodiciendlhkgaaGreat
set_option linter.unusedSimpArgs false
set_option linter.unusedVariables false
set_option maxRecDepth 8000
open Go.Ev
theorem slices_Equal (a b : List Nat) (ha : a.length ≤ 274877906944) (hb : b.length ≤ 274877906944) : Go.Ev.Fn CX 124 [natV a, natV b] (.bool (decide (a = b))) := by
  refine Go.Ev.Fn.intro (fn := Tryz.f124) (body := (Tryz.f124).body.get!) (by kernel_rfl) (by kernel_rfl) (by kernel_rfl) (fun _ => rfl) (Nat.le_of_ble_eq_true (by kernel_rfl)) ?_; unfold Tryz.f124; simp only [Option.get!_some]
  by_cases hl : a.length = b.length
  · repeat (first | (simp only [go_sem, Nat.reduceEqDiff, Nat.reduceAdd, Nat.reduceSub, Nat.reduceMul, Nat.reduceLeDiff, Nat.reduceLT, reduceIte, reduceCtorEq, Nat.succ_ne_zero, elemsC, Int.reduceToNat, Nat.reducePow]) | (simp (disch := (first | omega | (simp only [AL, List.length_map]; omega))) only [AR, AL, ifT, ifF, take_all, List.length_cons, List.length_nil, Int.reduceToNat, Int.reducePow, Nat.reducePow]) | (refine wk_intro (by kernel_rfl) ?_) | (refine vp_draw (id := 6) (l := []) (by kernel_rfl) ?_))
    refine vp_loop_inv (fun s => s.tmp 0 = .sv (natV a) ∧ s.tmp 1 = .sv (natV b) ∧ s.tmp 12 = .sv (.int .i64 (a.length : Int)) ∧ ∃ i : Nat, s.tmp 13 = .sv (.int .i64 i) ∧ i ≤ a.length ∧ a.take i = b.take i) (fun s => match s.tmp 13 with | .sv (.int _ i) => a.length - i.toNat | _ => 0) ⟨rfl, rfl, rfl, 0, rfl, by omega, rfl⟩ ?_
    rintro s ⟨i0, i1, i12, i, i13, hi, ht⟩
    by_cases hend : i = a.length
    · subst hend
      rw [List.take_length, hl, List.take_length] at ht
      rw [decide_eq_true ht]
      repeat (first | (simp only [go_sem, Nat.reduceEqDiff, Nat.reduceAdd, Nat.reduceSub, Nat.reduceMul, Nat.reduceLeDiff, Nat.reduceLT, reduceIte, reduceCtorEq, Nat.succ_ne_zero, elemsC, Int.reduceToNat, Nat.reducePow, i0, i1, i12, i13]) | (simp (disch := (first | omega | (simp only [AL, List.length_map]; omega))) only [AR, AL, ifT, ifF, take_all, List.length_cons, List.length_nil, Int.reduceToNat, Int.reducePow, Nat.reducePow, i0, i1, i12, i13]) | (refine wk_intro (by kernel_rfl) ?_) | (refine vp_draw (id := 6) (l := []) (by kernel_rfl) ?_))
    · have e : ∀ c : List Nat, i < c.length → c.take (i + 1) = c.take i ++ [c.getD i 0] := by
        intro c hc
        rw [List.take_add_one, List.getD_eq_getElem?_getD, List.getElem?_eq_getElem hc]
        rfl
      by_cases hx : a.getD i 0 = b.getD i 0
      · repeat (first | (simp only [go_sem, Nat.reduceEqDiff, Nat.reduceAdd, Nat.reduceSub, Nat.reduceMul, Nat.reduceLeDiff, Nat.reduceLT, reduceIte, reduceCtorEq, Nat.succ_ne_zero, elemsC, Int.reduceToNat, Nat.reducePow, i0, i1, i12, i13]) | (simp (disch := (first | omega | (simp only [AL, List.length_map]; omega))) only [AR, AL, ifT, ifF, take_all, List.length_cons, List.length_nil, Int.reduceToNat, Int.reducePow, Nat.reducePow, i0, i1, i12, i13]) | (refine wk_intro (by kernel_rfl) ?_) | (refine vp_draw (id := 6) (l := []) (by kernel_rfl) ?_))
        exact ⟨⟨i + 1, rfl, by omega, by rw [e a (by omega), e b (by omega), ht, hx]⟩, by omega⟩
      · rw [decide_eq_false (fun h => hx (by rw [h]))]
        repeat (first | (simp only [go_sem, Nat.reduceEqDiff, Nat.reduceAdd, Nat.reduceSub, Nat.reduceMul, Nat.reduceLeDiff, Nat.reduceLT, reduceIte, reduceCtorEq, Nat.succ_ne_zero, elemsC, Int.reduceToNat, Nat.reducePow, i0, i1, i12, i13]) | (simp (disch := (first | omega | (simp only [AL, List.length_map]; omega))) only [AR, AL, ifT, ifF, take_all, List.length_cons, List.length_nil, Int.reduceToNat, Int.reducePow, Nat.reducePow, i0, i1, i12, i13]) | (refine wk_intro (by kernel_rfl) ?_) | (refine vp_draw (id := 6) (l := []) (by kernel_rfl) ?_))
  · rw [decide_eq_false (fun h => hl (by rw [h]))]
    repeat (first | (simp only [go_sem, Nat.reduceEqDiff, Nat.reduceAdd, Nat.reduceSub, Nat.reduceMul, Nat.reduceLeDiff, Nat.reduceLT, reduceIte, reduceCtorEq, Nat.succ_ne_zero, elemsC, Int.reduceToNat, Nat.reducePow]) | (simp (disch := (first | omega | (simp only [AL, List.length_map]; omega))) only [AR, AL, ifT, ifF, take_all, List.length_cons, List.length_nil, Int.reduceToNat, Int.reducePow, Nat.reducePow]) | (refine wk_intro (by kernel_rfl) ?_) | (refine vp_draw (id := 6) (l := []) (by kernel_rfl) ?_))
theorem rat_Same {v w : SV} {q r : Rat} {L M : Nat} (hv : RatA v q L) (hw : RatA w r M) (hL : 1 ≤ L) (hM : 1 ≤ M) (h : L + M ≤ 8388608) : Go.Ev.Fn CX 79 [v, w] (.bool (decide (q = r))) := by
  have hnv := rat_Norm hv (by omega)
  have hnw := rat_Norm hw (by omega)
  obtain ⟨z1, z2⟩ := szR_of hv hL
  obtain ⟨y1, y2⟩ := szR_of hw hM
  have l1 := slices_Equal (lim q.num.natAbs) (lim r.num.natAbs) (by omega) (by omega)
  have l2 := slices_Equal (lim q.den) (lim r.den) (by omega) (by omega)
  have hbb := beq_bool (decide (q.num < 0)) (decide (r.num < 0))
  obtain ⟨s, n, d, rfl, -⟩ := hv
  obtain ⟨s', n', d', rfl, -⟩ := hw
  refine Go.Ev.Fn.intro (fn := Tryz.f79) (body := (Tryz.f79).body.get!) (by kernel_rfl) (by kernel_rfl) (by kernel_rfl) (fun _ => rfl) (Nat.le_of_ble_eq_true (by kernel_rfl)) ?_; unfold Tryz.f79; simp only [Option.get!_some]
  repeat (first | (simp only [go_sem, Nat.reduceEqDiff, Nat.reduceAdd, Nat.reduceSub, Nat.reduceMul, Nat.reduceLeDiff, Nat.reduceLT, reduceIte, reduceCtorEq, Nat.succ_ne_zero, elemsC, Int.reduceToNat, Nat.reducePow, hbb]) | (simp (disch := (first | omega | (simp only [AL, List.length_map]; omega))) only [AR, AL, ifT, ifF, take_all, List.length_cons, List.length_nil, Int.reduceToNat, Int.reducePow, Nat.reducePow, hbb]) | (refine wk_intro (by kernel_rfl) ?_) | (refine vp_draw (id := 1) (l := []) (by kernel_rfl) ?_) | (refine vf_of (by first | exact hnv | exact hnw) ?_))
  by_cases h1 : decide (q.num < 0) = decide (r.num < 0)
  · rw [decide_eq_true h1]
    by_cases h2 : lim q.num.natAbs = lim r.num.natAbs
    · rw [decide_eq_true h2] at l1
      repeat (first | (simp only [go_sem, Nat.reduceEqDiff, Nat.reduceAdd, Nat.reduceSub, Nat.reduceMul, Nat.reduceLeDiff, Nat.reduceLT, reduceIte, reduceCtorEq, Nat.succ_ne_zero, elemsC, Int.reduceToNat, Nat.reducePow]) | (simp (disch := (first | omega | (simp only [AL, List.length_map]; omega))) only [AR, AL, ifT, ifF, take_all, List.length_cons, List.length_nil, Int.reduceToNat, Int.reducePow, Nat.reducePow]) | (refine wk_intro (by kernel_rfl) ?_) | (refine vp_draw (id := 1) (l := []) (by kernel_rfl) ?_))
      have e : decide (lim q.den = lim r.den) = decide (q = r) := by
        by_cases h3 : lim q.den = lim r.den
        · rw [decide_eq_true h3, decide_eq_true (rv_eq h1 h2 h3)]
        · rw [decide_eq_false h3, decide_eq_false (fun e => h3 (by rw [e]))]
      rw [e] at l2
      repeat (first | (simp only [go_sem, Nat.reduceEqDiff, Nat.reduceAdd, Nat.reduceSub, Nat.reduceMul, Nat.reduceLeDiff, Nat.reduceLT, reduceIte, reduceCtorEq, Nat.succ_ne_zero, elemsC, Int.reduceToNat, Nat.reducePow]) | (simp (disch := (first | omega | (simp only [AL, List.length_map]; omega))) only [AR, AL, ifT, ifF, take_all, List.length_cons, List.length_nil, Int.reduceToNat, Int.reducePow, Nat.reducePow]) | (refine wk_intro (by kernel_rfl) ?_) | (refine vp_draw (id := 1) (l := []) (by kernel_rfl) ?_) | (refine vf_of (by first | exact l1 | exact l2) ?_))
    · rw [decide_eq_false h2] at l1
      have hne : q ≠ r := fun e => h2 (by rw [e])
      rw [decide_eq_false hne]
      repeat (first | (simp only [go_sem, Nat.reduceEqDiff, Nat.reduceAdd, Nat.reduceSub, Nat.reduceMul, Nat.reduceLeDiff, Nat.reduceLT, reduceIte, reduceCtorEq, Nat.succ_ne_zero, elemsC, Int.reduceToNat, Nat.reducePow]) | (simp (disch := (first | omega | (simp only [AL, List.length_map]; omega))) only [AR, AL, ifT, ifF, take_all, List.length_cons, List.length_nil, Int.reduceToNat, Int.reducePow, Nat.reducePow]) | (refine wk_intro (by kernel_rfl) ?_) | (refine vp_draw (id := 1) (l := []) (by kernel_rfl) ?_) | (refine vf_of (by first | exact l1) ?_))
  · have hne : q ≠ r := fun e => h1 (by rw [e])
    rw [decide_eq_false h1, decide_eq_false hne]
    repeat (first | (simp only [go_sem, Nat.reduceEqDiff, Nat.reduceAdd, Nat.reduceSub, Nat.reduceMul, Nat.reduceLeDiff, Nat.reduceLT, reduceIte, reduceCtorEq, Nat.succ_ne_zero, elemsC, Int.reduceToNat, Nat.reducePow]) | (simp (disch := (first | omega | (simp only [AL, List.length_map]; omega))) only [AR, AL, ifT, ifF, take_all, List.length_cons, List.length_nil, Int.reduceToNat, Int.reducePow, Nat.reducePow]) | (refine wk_intro (by kernel_rfl) ?_) | (refine vp_draw (id := 1) (l := []) (by kernel_rfl) ?_))
theorem neg_num {x : Rat} : decide (x.num < 0) = decide (x < 0) := by
  have h := Rat.num_nonneg (q := x)
  refine decide_eq_decide.2 ⟨fun g => ?_, fun g => ?_⟩
  · have : ¬ 0 ≤ x := fun k => absurd (h.2 k) (by omega)
    grind
  · rcases Int.lt_or_le x.num 0 with k | k
    · exact k
    · exact absurd (h.1 k) (by grind)
section
variable {v : SV} {x : Rat} {A B p L : Nat}
theorem erv {x : Rat} (h : decide (x.num < 0) = false) : rv x = ratV false (lim x.num.natAbs) (lim x.den) := by show ratV (decide (x.num < 0)) _ _ = _; rw [h]
theorem incb_I_out {a b : Int} {pI : Int} (hv : RatA v x L) (hL1 : 1 ≤ L) (hL : L ≤ 3) (ha : 1 ≤ a ∧ a ≤ 256) (hb : 1 ≤ b ∧ b ≤ 256) (h : x < 0 ∨ 1 < x) : Go.Ev.Fn CX 41 [.int .i64 a, .int .i64 b, v, .int .i64 pI] (.tup [ballR 0 0, .bool false]) := by
  have n1 := rat_Norm hv (by omega)
  have zx := szR_of hv hL1
  have i1 := rat_Int 1 (by omega)
  have i0 := rat_Int 0 (by omega)
  have o := ball_Of (RatA_rv (int_szR (n := 0) (by omega))) (by omega)
  rw [show ((0 : Int) : Rat) = 0 from rfl] at i0 o
  have c1 := rat_Cmp (RatA_rv zx) (RatA_rv (int_szR (n := 1) (by omega))) hL1 (by omega) (by omega)
  rw [show ((1 : Int) : Rat) = 1 from rfl] at i1 c1
  have e1 : decide (cmpR x 1 > 0) = decide (1 < x) := cmpR_gt
  have en := neg_num (x := x)
  obtain ⟨s, n, d, rfl, -⟩ := hv
  by_cases hx : x < 0
  · rw [decide_eq_true hx] at en
    generalize cmpR x 1 = z at *
    refine Go.Ev.Fn.intro (fn := Tryz.f41) (body := (Tryz.f41).body.get!) (by kernel_rfl) (by kernel_rfl) (by kernel_rfl) (fun _ => rfl) (Nat.le_of_ble_eq_true (by kernel_rfl)) ?_; unfold Tryz.f41; simp only [Option.get!_some]
    repeat (first | (simp only [go_sem, Nat.reduceEqDiff, Nat.reduceAdd, Nat.reduceSub, Nat.reduceMul, Nat.reduceLeDiff, Nat.reduceLT, reduceIte, reduceCtorEq, Nat.succ_ne_zero, elemsC, Int.reduceToNat, Nat.reducePow, en]) | (simp (disch := (first | omega | (simp only [AL, List.length_map]; omega))) only [AR, AL, ifT, ifF, take_all, List.length_cons, List.length_nil, Int.reduceToNat, Int.reducePow, Nat.reducePow, en]) | (refine wk_intro (by kernel_rfl) ?_) | (refine vp_draw (id := 9) (l := []) (by kernel_rfl) ?_) | (refine vp_draw (id := 11) (l := []) (by kernel_rfl) ?_) | (refine vf_of (by first | exact n1 | exact i1 | exact c1 | exact i0 | exact o) ?_))
  · rw [decide_eq_false hx] at en
    rw [decide_eq_true (h.resolve_left hx)] at e1
    rw [erv en] at n1 c1
    generalize cmpR x 1 = z at *
    refine Go.Ev.Fn.intro (fn := Tryz.f41) (body := (Tryz.f41).body.get!) (by kernel_rfl) (by kernel_rfl) (by kernel_rfl) (fun _ => rfl) (Nat.le_of_ble_eq_true (by kernel_rfl)) ?_; unfold Tryz.f41; simp only [Option.get!_some]
    repeat (first | (simp only [go_sem, Nat.reduceEqDiff, Nat.reduceAdd, Nat.reduceSub, Nat.reduceMul, Nat.reduceLeDiff, Nat.reduceLT, reduceIte, reduceCtorEq, Nat.succ_ne_zero, elemsC, Int.reduceToNat, Nat.reducePow, en, e1]) | (simp (disch := (first | omega | (simp only [AL, List.length_map]; omega))) only [AR, AL, ifT, ifF, take_all, List.length_cons, List.length_nil, Int.reduceToNat, Int.reducePow, Nat.reducePow, en, e1]) | (refine wk_intro (by kernel_rfl) ?_) | (refine vp_draw (id := 9) (l := []) (by kernel_rfl) ?_) | (refine vp_draw (id := 11) (l := []) (by kernel_rfl) ?_) | (refine vf_of (by first | exact n1 | exact i1 | exact c1 | exact i0 | exact o) ?_))
theorem incb_I_ends {a b : Int} {pI : Int} (hv : RatA v x L) (hL1 : 1 ≤ L) (hL : L ≤ 3) (ha : 1 ≤ a ∧ a ≤ 256) (hb : 1 ≤ b ∧ b ≤ 256) (h : x = 0 ∨ x = 1) : Go.Ev.Fn CX 41 [.int .i64 a, .int .i64 b, v, .int .i64 pI] (.tup [ballR x x, .bool true]) := by
  have n1 := rat_Norm hv (by omega)
  have zx := szR_of hv hL1
  have i1 := rat_Int 1 (by omega)
  have o := ball_Of (RatA_rv zx) (by omega)
  have c1 := rat_Cmp (RatA_rv zx) (RatA_rv (int_szR (n := 1) (by omega))) hL1 (by omega) (by omega)
  have zr := rat_Zero (RatA_rv zx) hL1 (by omega)
  have sm := rat_Same (RatA_rv zx) (RatA_rv (int_szR (n := 1) (by omega))) hL1 (by omega) (by omega)
  rw [show ((1 : Int) : Rat) = 1 from rfl] at i1 c1 sm
  have e1 : decide (cmpR x 1 > 0) = false := by rw [cmpR_gt]; exact decide_eq_false (by rcases h with rfl | rfl <;> decide +kernel)
  have en : decide (x.num < 0) = false := by rw [neg_num]; exact decide_eq_false (by rcases h with rfl | rfl <;> decide +kernel)
  rw [erv en] at n1 c1 zr sm o
  obtain ⟨s, n, d, rfl, -⟩ := hv
  generalize cmpR x 1 = z at *
  by_cases hx : x = 0
  · rw [decide_eq_true hx] at zr
    clear hx h
    refine Go.Ev.Fn.intro (fn := Tryz.f41) (body := (Tryz.f41).body.get!) (by kernel_rfl) (by kernel_rfl) (by kernel_rfl) (fun _ => rfl) (Nat.le_of_ble_eq_true (by kernel_rfl)) ?_; unfold Tryz.f41; simp only [Option.get!_some]
    repeat (first | (simp only [go_sem, Nat.reduceEqDiff, Nat.reduceAdd, Nat.reduceSub, Nat.reduceMul, Nat.reduceLeDiff, Nat.reduceLT, reduceIte, reduceCtorEq, Nat.succ_ne_zero, elemsC, Int.reduceToNat, Nat.reducePow, en, e1]) | (simp (disch := (first | omega | (simp only [AL, List.length_map]; omega))) only [AR, AL, ifT, ifF, take_all, List.length_cons, List.length_nil, Int.reduceToNat, Int.reducePow, Nat.reducePow, en, e1]) | (refine wk_intro (by kernel_rfl) ?_) | (refine vp_draw (id := 9) (l := []) (by kernel_rfl) ?_) | (refine vp_draw (id := 11) (l := []) (by kernel_rfl) ?_) | (refine vf_of (by first | exact n1 | exact i1 | exact c1 | exact zr | exact o) ?_))
    show _ = SV.agg [.bool (decide (x.num < 0)), natV (lim x.num.natAbs), natV (lim x.den), .bool (decide (x.num < 0)), natV (lim x.num.natAbs), natV (lim x.den)]
    rw [en]
  · rw [decide_eq_false hx] at zr
    rw [decide_eq_true (h.resolve_left hx)] at sm
    clear hx h
    refine Go.Ev.Fn.intro (fn := Tryz.f41) (body := (Tryz.f41).body.get!) (by kernel_rfl) (by kernel_rfl) (by kernel_rfl) (fun _ => rfl) (Nat.le_of_ble_eq_true (by kernel_rfl)) ?_; unfold Tryz.f41; simp only [Option.get!_some]
    repeat (first | (simp only [go_sem, Nat.reduceEqDiff, Nat.reduceAdd, Nat.reduceSub, Nat.reduceMul, Nat.reduceLeDiff, Nat.reduceLT, reduceIte, reduceCtorEq, Nat.succ_ne_zero, elemsC, Int.reduceToNat, Nat.reducePow, en, e1]) | (simp (disch := (first | omega | (simp only [AL, List.length_map]; omega))) only [AR, AL, ifT, ifF, take_all, List.length_cons, List.length_nil, Int.reduceToNat, Int.reducePow, Nat.reducePow, en, e1]) | (refine wk_intro (by kernel_rfl) ?_) | (refine vp_draw (id := 9) (l := []) (by kernel_rfl) ?_) | (refine vp_draw (id := 11) (l := []) (by kernel_rfl) ?_) | (refine vf_of (by first | exact n1 | exact i1 | exact c1 | exact zr | exact sm | exact o) ?_))
    show _ = SV.agg [.bool (decide (x.num < 0)), natV (lim x.num.natAbs), natV (lim x.den), .bool (decide (x.num < 0)), natV (lim x.num.natAbs), natV (lim x.den)]
    rw [en]
set_option maxHeartbeats 1000000 in
theorem incb_I_low {A' B' K : Nat} (hv : RatA v x L) (hL1 : 1 ≤ L) (hL : L ≤ 3) (hA : 1 ≤ A) (hB : 1 ≤ B) (hAB : A + B ≤ 10) (hp : p ≤ 60) (h0 : 0 < x) (h1 : x + x ≤ 1)
    (hg : rowGo (p + 300) (unN x (p + 300)) (unN x (p + 300) + 1) (2 * A) (2 * B) 2201 0 (fsN x A B (p + 300)).1 (fsN x A B (p + 300)).2 (fsN x A B (p + 300)).1 (fsN x A B (p + 300)).2 = some (A', B', K)) (hl : (lim A').length ≤ 100 ∧ (lim B').length ≤ 100) :
    Go.Ev.Fn CX 41 [.int .i64 (2 * (A : Int)), .int .i64 (2 * (B : Int)), v, .int .i64 (p : Int)] (.tup [ballR (mkRat ((A' / 2 ^ (p + 300 - (p + 2)) : Nat) : Int) (2 ^ (p + 2))) (mkRat ((B' / 2 ^ (p + 300 - (p + 2)) + 1 : Nat) : Int) (2 ^ (p + 2))), .bool true]) := by
  have n1 := rat_Norm hv (by omega)
  have zx := szR_of hv hL1
  have i1 := rat_Int 1 (by omega)
  have c1 := rat_Cmp (RatA_rv zx) (RatA_rv (int_szR (n := 1) (by omega))) hL1 (by omega) (by omega)
  have zr := rat_Zero (RatA_rv zx) hL1 (by omega)
  rw [decide_eq_false (by clear hg; grind)] at zr
  have sm := rat_Same (RatA_rv zx) (RatA_rv (int_szR (n := 1) (by omega))) hL1 (by omega) (by omega)
  have ad := rat_Add (RatA_rv zx) (RatA_rv zx) hL1 hL1 (by omega)
  have c2 := rat_Cmp (RatA_rv (szR_add zx zx hL1)) (RatA_rv (int_szR (n := 1) (by omega))) (by omega) (by omega) (by omega)
  rw [show ((1 : Int) : Rat) = 1 from rfl] at i1 c1 sm c2
  rw [decide_eq_false (show ¬ x = 1 by clear hg; grind)] at sm
  have e1 : decide (cmpR x 1 > 0) = false := by rw [cmpR_gt]; exact decide_eq_false (by clear hg; grind)
  have e2 : decide (cmpR (x + x) 1 ≤ 0) = true := by rw [cmpR_le]; exact decide_eq_true h1
  have en : decide (x.num < 0) = false := by rw [neg_num]; exact decide_eq_false (by clear hg; grind)
  have rw1 := incb_row (w := p + 300) hA hB hAB zx hL1 hL (show 0 ≤ x by clear hg; grind) h1 (by omega) (by omega) hg
  have td := fix_Told (a := A') (b := B') (w := p + 300) (p := p + 2) (by omega) (by omega) (by omega) (by omega)
  have x1 : (if (0 : Int) > (p : Int) then (0 : Int) else (p : Int)) = (p : Int) := if_neg (by omega)
  have x2 : (if (200 : Int) < (p : Int) then (200 : Int) else (p : Int)) = (p : Int) := if_neg (by omega)
  rw [show ((p + 300 : Nat) : Int) = (p : Int) + 300 from rfl] at rw1 td
  rw [show ((p + 2 : Nat) : Int) = (p : Int) + 2 from rfl] at td
  generalize mkRat ((A' / 2 ^ (p + 300 - (p + 2)) : Nat) : Int) (2 ^ (p + 2)) = q1 at *
  generalize mkRat ((B' / 2 ^ (p + 300 - (p + 2)) + 1 : Nat) : Int) (2 ^ (p + 2)) = q2 at *
  rw [erv en] at n1 c1 zr sm ad rw1
  obtain ⟨s, n, d, rfl, -⟩ := hv
  clear hg h0 h1
  generalize cmpR x 1 = z at *
  generalize x + x = xx at *
  generalize cmpR xx 1 = z2 at *
  refine Go.Ev.Fn.intro (fn := Tryz.f41) (body := (Tryz.f41).body.get!) (by kernel_rfl) (by kernel_rfl) (by kernel_rfl) (fun _ => rfl) (Nat.le_of_ble_eq_true (by kernel_rfl)) ?_; unfold Tryz.f41; simp only [Option.get!_some]
  repeat (first | (simp only [go_sem, Nat.reduceEqDiff, Nat.reduceAdd, Nat.reduceSub, Nat.reduceMul, Nat.reduceLeDiff, Nat.reduceLT, reduceIte, reduceCtorEq, Nat.succ_ne_zero, elemsC, Int.reduceToNat, Nat.reducePow, en, x1, x2, e1, e2]) | (simp (disch := (first | omega | (simp only [AL, List.length_map]; omega))) only [AR, AL, ifT, ifF, take_all, List.length_cons, List.length_nil, Int.reduceToNat, Int.reducePow, Nat.reducePow, en, x1, x2, e1, e2]) | (refine wk_intro (by kernel_rfl) ?_) | (refine vp_draw (id := 9) (l := []) (by kernel_rfl) ?_) | (refine vp_draw (id := 11) (l := []) (by kernel_rfl) ?_) | (refine vf_of (by first | exact n1 | exact i1 | exact c1 | exact zr | exact sm | exact ad | exact c2 | exact rw1 | exact td) ?_))
set_option maxHeartbeats 1000000 in
theorem incb_I_high {A' B' K : Nat} (hv : RatA v x L) (hL1 : 1 ≤ L) (hL : L ≤ 1) (hA : 1 ≤ A) (hB : 1 ≤ B) (hAB : A + B ≤ 10) (hp : p ≤ 60) (h0 : 1 < x + x) (h1 : x < 1)
    (hg : rowGo (p + 300) (unN (1 - x) (p + 300)) (unN (1 - x) (p + 300) + 1) (2 * B) (2 * A) 2201 0 (fsN (1 - x) B A (p + 300)).1 (fsN (1 - x) B A (p + 300)).2 (fsN (1 - x) B A (p + 300)).1 (fsN (1 - x) B A (p + 300)).2 = some (A', B', K)) (hl : (lim A').length ≤ 100 ∧ (lim B').length ≤ 100) :
    Go.Ev.Fn CX 41 [.int .i64 (2 * (A : Int)), .int .i64 (2 * (B : Int)), v, .int .i64 (p : Int)] (.tup [ballR (1 - mkRat ((B' / 2 ^ (p + 300 - (p + 2)) + 1 : Nat) : Int) (2 ^ (p + 2))) (1 - mkRat ((A' / 2 ^ (p + 300 - (p + 2)) : Nat) : Int) (2 ^ (p + 2))), .bool true]) := by
  have n1 := rat_Norm hv (by omega)
  have zx := szR_of hv hL1
  have i1 := rat_Int 1 (by omega)
  have c1 := rat_Cmp (RatA_rv zx) (RatA_rv (int_szR (n := 1) (by omega))) hL1 (by omega) (by omega)
  have zr := rat_Zero (RatA_rv zx) hL1 (by omega)
  rw [decide_eq_false (by clear hg; grind)] at zr
  have sm := rat_Same (RatA_rv zx) (RatA_rv (int_szR (n := 1) (by omega))) hL1 (by omega) (by omega)
  have ad := rat_Add (RatA_rv zx) (RatA_rv zx) hL1 hL1 (by omega)
  have c2 := rat_Cmp (RatA_rv (szR_add zx zx hL1)) (RatA_rv (int_szR (n := 1) (by omega))) (by omega) (by omega) (by omega)
  have b1 := ball_Of (RatA_rv (int_szR (n := 1) (by omega))) (by omega)
  have sb := rat_Sub (RatA_rv (int_szR (n := 1) (by omega))) (RatA_rv zx) (by omega) hL1 (by omega)
  have one1 : szR 1 1 := ⟨lim_len_lt (by decide +kernel), lim_len_lt (by decide +kernel)⟩
  have zy := szR_sub one1 zx (by omega)
  rw [show ((1 : Int) : Rat) = 1 from rfl] at i1 c1 sm c2 b1 sb
  rw [decide_eq_false (show ¬ x = 1 by clear hg; grind)] at sm
  have e1 : decide (cmpR x 1 > 0) = false := by rw [cmpR_gt]; exact decide_eq_false (by clear hg; grind)
  have e2 : decide (cmpR (x + x) 1 ≤ 0) = false := by rw [cmpR_le]; exact decide_eq_false (by clear hg; grind)
  have en : decide (x.num < 0) = false := by rw [neg_num]; exact decide_eq_false (by clear hg; grind)
  have rw1 := incb_row (w := p + 300) hB hA (by omega) zy (by omega) (by omega) (show 0 ≤ 1 - x by clear hg; grind) (by clear hg; grind) (by omega) (by omega) hg
  have td := fix_Told (a := A') (b := B') (w := p + 300) (p := p + 2) (by omega) (by omega) (by omega) (by omega)
  have l3 := lim_len_mono (Nat.div_le_self A' (2 ^ (p + 300 - (p + 2))))
  have l4 := lim_len_mono (Nat.div_le_self B' (2 ^ (p + 300 - (p + 2))))
  have l1 := lim_len1
  have l5 := lim_len_add (a := B' / 2 ^ (p + 300 - (p + 2))) (b := 1) (L := 100) (by omega) (by omega)
  have lp := lim_len_shl (a := 1) (n := p + 2)
  rw [Nat.one_mul] at lp
  have z1 := szR_mk (s := false) (n := A' / 2 ^ (p + 300 - (p + 2))) (d := 2 ^ (p + 2)) (L := 101) (by omega) (by omega) (by omega)
  have z2 := szR_mk (s := false) (n := B' / 2 ^ (p + 300 - (p + 2)) + 1) (d := 2 ^ (p + 2)) (L := 101) (by omega) (by omega) (by omega)
  rw [show sgn false (A' / 2 ^ (p + 300 - (p + 2))) = ((A' / 2 ^ (p + 300 - (p + 2)) : Nat) : Int) from rfl] at z1
  rw [show sgn false (B' / 2 ^ (p + 300 - (p + 2)) + 1) = ((B' / 2 ^ (p + 300 - (p + 2)) + 1 : Nat) : Int) from rfl] at z2
  have bs := ball_Sub (a := 1) (b := 1) (L := 101) (szR_mono one1 (by omega)) (szR_mono one1 (by omega)) z1 z2 (by omega) (by omega)
  have x1 : (if (0 : Int) > (p : Int) then (0 : Int) else (p : Int)) = (p : Int) := if_neg (by omega)
  have x2 : (if (200 : Int) < (p : Int) then (200 : Int) else (p : Int)) = (p : Int) := if_neg (by omega)
  rw [show ((p + 300 : Nat) : Int) = (p : Int) + 300 from rfl] at rw1 td
  rw [show ((p + 2 : Nat) : Int) = (p : Int) + 2 from rfl] at td
  generalize mkRat ((A' / 2 ^ (p + 300 - (p + 2)) : Nat) : Int) (2 ^ (p + 2)) = q1 at *
  generalize mkRat ((B' / 2 ^ (p + 300 - (p + 2)) + 1 : Nat) : Int) (2 ^ (p + 2)) = q2 at *
  generalize 1 - q2 = w1 at *
  generalize 1 - q1 = w2 at *
  rw [erv en] at n1 c1 zr sm ad sb
  obtain ⟨s, n, d, rfl, -⟩ := hv
  clear hg h0 h1
  generalize cmpR x 1 = z at *
  generalize x + x = xx at *
  generalize cmpR xx 1 = z2' at *
  generalize 1 - x = y at *
  refine Go.Ev.Fn.intro (fn := Tryz.f41) (body := (Tryz.f41).body.get!) (by kernel_rfl) (by kernel_rfl) (by kernel_rfl) (fun _ => rfl) (Nat.le_of_ble_eq_true (by kernel_rfl)) ?_; unfold Tryz.f41; simp only [Option.get!_some]
  repeat (first | (simp only [go_sem, Nat.reduceEqDiff, Nat.reduceAdd, Nat.reduceSub, Nat.reduceMul, Nat.reduceLeDiff, Nat.reduceLT, reduceIte, reduceCtorEq, Nat.succ_ne_zero, elemsC, Int.reduceToNat, Nat.reducePow, en, x1, x2, e1, e2]) | (simp (disch := (first | omega | (simp only [AL, List.length_map]; omega))) only [AR, AL, ifT, ifF, take_all, List.length_cons, List.length_nil, Int.reduceToNat, Int.reducePow, Nat.reducePow, en, x1, x2, e1, e2]) | (refine wk_intro (by kernel_rfl) ?_) | (refine vp_draw (id := 9) (l := []) (by kernel_rfl) ?_) | (refine vp_draw (id := 11) (l := []) (by kernel_rfl) ?_) | (refine vf_of (by first | exact n1 | exact i1 | exact c1 | exact zr | exact sm | exact ad | exact c2 | exact b1 | exact sb | exact rw1 | exact td | exact bs) ?_))
end
end Go.Proofs.YtodiciendlhkgaaGreat

/- incb.I of any halves, in the evaluator. -/
namespace Go.Proofs.YtodiciendlhkgaaGreat
set_option linter.unusedSimpArgs false
set_option linter.unusedVariables false
set_option maxRecDepth 8000
open Go.Ev
set_option linter.unusedVariables false
theorem incb_I_bad {v : SV} {x : Rat} {a b pI : Int} {L : Nat} (hv : RatA v x L) (hL1 : 1 ≤ L) (hL : L ≤ 250) (ha : -9223372036854775808 ≤ a ∧ a ≤ 256) (hb : -9223372036854775808 ≤ b ∧ b ≤ 256) (h : a < 1 ∨ b < 1 ∨ x < 0 ∨ 1 < x) : Go.Ev.Fn CX 41 [.int .i64 a, .int .i64 b, v, .int .i64 pI] (.tup [ballR 0 0, .bool false]) := by
  have n1 := rat_Norm hv (by omega)
  have zx := szR_of hv hL1
  have i1 := rat_Int 1 (by omega)
  have i0 := rat_Int 0 (by omega)
  have o := ball_Of (RatA_rv (int_szR (n := 0) (by omega))) (by omega)
  rw [show ((0 : Int) : Rat) = 0 from rfl] at i0 o
  have c1 := rat_Cmp (RatA_rv zx) (RatA_rv (int_szR (n := 1) (by omega))) hL1 (by omega) (by omega)
  rw [show ((1 : Int) : Rat) = 1 from rfl] at i1 c1
  have e1 : decide (cmpR x 1 > 0) = decide (1 < x) := cmpR_gt
  have en := neg_num (x := x)
  obtain ⟨s, n, d, rfl, -⟩ := hv
  generalize cmpR x 1 = z at *
  by_cases g1 : a < 1
  · clear h e1 en
    refine Go.Ev.Fn.intro (fn := Tryz.f41) (body := (Tryz.f41).body.get!) (by kernel_rfl) (by kernel_rfl) (by kernel_rfl) (fun _ => rfl) (Nat.le_of_ble_eq_true (by kernel_rfl)) ?_; unfold Tryz.f41; simp only [Option.get!_some]
    repeat (first | (simp only [go_sem, Nat.reduceEqDiff, Nat.reduceAdd, Nat.reduceSub, Nat.reduceMul, Nat.reduceLeDiff, Nat.reduceLT, reduceIte, reduceCtorEq, Nat.succ_ne_zero, elemsC, Int.reduceToNat, Nat.reducePow]) | (simp (disch := (first | omega | (simp only [AL, List.length_map]; omega))) only [AR, AL, ifT, ifF, take_all, List.length_cons, List.length_nil, Int.reduceToNat, Int.reducePow, Nat.reducePow]) | (refine wk_intro (by kernel_rfl) ?_) | (refine vp_draw (id := 9) (l := []) (by kernel_rfl) ?_) | (refine vp_draw (id := 11) (l := []) (by kernel_rfl) ?_) | (refine vf_of (by first | exact n1 | exact i1 | exact i0 | exact o) ?_))
  by_cases g2 : b < 1
  · clear h e1 en
    refine Go.Ev.Fn.intro (fn := Tryz.f41) (body := (Tryz.f41).body.get!) (by kernel_rfl) (by kernel_rfl) (by kernel_rfl) (fun _ => rfl) (Nat.le_of_ble_eq_true (by kernel_rfl)) ?_; unfold Tryz.f41; simp only [Option.get!_some]
    repeat (first | (simp only [go_sem, Nat.reduceEqDiff, Nat.reduceAdd, Nat.reduceSub, Nat.reduceMul, Nat.reduceLeDiff, Nat.reduceLT, reduceIte, reduceCtorEq, Nat.succ_ne_zero, elemsC, Int.reduceToNat, Nat.reducePow]) | (simp (disch := (first | omega | (simp only [AL, List.length_map]; omega))) only [AR, AL, ifT, ifF, take_all, List.length_cons, List.length_nil, Int.reduceToNat, Int.reducePow, Nat.reducePow]) | (refine wk_intro (by kernel_rfl) ?_) | (refine vp_draw (id := 9) (l := []) (by kernel_rfl) ?_) | (refine vp_draw (id := 11) (l := []) (by kernel_rfl) ?_) | (refine vf_of (by first | exact n1 | exact i1 | exact i0 | exact o) ?_))
  by_cases hx : x < 0
  · rw [decide_eq_true hx] at en
    clear h e1
    refine Go.Ev.Fn.intro (fn := Tryz.f41) (body := (Tryz.f41).body.get!) (by kernel_rfl) (by kernel_rfl) (by kernel_rfl) (fun _ => rfl) (Nat.le_of_ble_eq_true (by kernel_rfl)) ?_; unfold Tryz.f41; simp only [Option.get!_some]
    repeat (first | (simp only [go_sem, Nat.reduceEqDiff, Nat.reduceAdd, Nat.reduceSub, Nat.reduceMul, Nat.reduceLeDiff, Nat.reduceLT, reduceIte, reduceCtorEq, Nat.succ_ne_zero, elemsC, Int.reduceToNat, Nat.reducePow, en]) | (simp (disch := (first | omega | (simp only [AL, List.length_map]; omega))) only [AR, AL, ifT, ifF, take_all, List.length_cons, List.length_nil, Int.reduceToNat, Int.reducePow, Nat.reducePow, en]) | (refine wk_intro (by kernel_rfl) ?_) | (refine vp_draw (id := 9) (l := []) (by kernel_rfl) ?_) | (refine vp_draw (id := 11) (l := []) (by kernel_rfl) ?_) | (refine vf_of (by first | exact n1 | exact i1 | exact i0 | exact o) ?_))
  · rw [decide_eq_false hx] at en
    rw [decide_eq_true ((h.resolve_left g1).resolve_left g2 |>.resolve_left hx)] at e1
    rw [erv en] at n1 c1
    clear h
    refine Go.Ev.Fn.intro (fn := Tryz.f41) (body := (Tryz.f41).body.get!) (by kernel_rfl) (by kernel_rfl) (by kernel_rfl) (fun _ => rfl) (Nat.le_of_ble_eq_true (by kernel_rfl)) ?_; unfold Tryz.f41; simp only [Option.get!_some]
    repeat (first | (simp only [go_sem, Nat.reduceEqDiff, Nat.reduceAdd, Nat.reduceSub, Nat.reduceMul, Nat.reduceLeDiff, Nat.reduceLT, reduceIte, reduceCtorEq, Nat.succ_ne_zero, elemsC, Int.reduceToNat, Nat.reducePow, en, e1]) | (simp (disch := (first | omega | (simp only [AL, List.length_map]; omega))) only [AR, AL, ifT, ifF, take_all, List.length_cons, List.length_nil, Int.reduceToNat, Int.reducePow, Nat.reducePow, en, e1]) | (refine wk_intro (by kernel_rfl) ?_) | (refine vp_draw (id := 9) (l := []) (by kernel_rfl) ?_) | (refine vp_draw (id := 11) (l := []) (by kernel_rfl) ?_) | (refine vf_of (by first | exact n1 | exact i1 | exact c1 | exact i0 | exact o) ?_))
section
variable {v : SV} {x : Rat} {a b p L : Nat}
/-- What is told of so many units. -/
abbrev toldLo (A p : Nat) : Rat := mkRat ((A / 2 ^ (p + 300 - (p + 2)) : Nat) : Int) (2 ^ (p + 2))
abbrev toldHi (B p : Nat) : Rat := mkRat ((B / 2 ^ (p + 300 - (p + 2)) + 1 : Nat) : Int) (2 ^ (p + 2))
theorem told_sz {A B : Nat} (hp : p ≤ 80) (hA : (lim A).length ≤ 100) (hB : (lim B).length ≤ 100) : szR (toldLo A p) 101 ∧ szR (toldHi B p) 101 := by
  have l3 := lim_len_mono (Nat.div_le_self A (2 ^ (p + 300 - (p + 2))))
  have l4 := lim_len_mono (Nat.div_le_self B (2 ^ (p + 300 - (p + 2))))
  have l1 := lim_len1
  have l5 := lim_len_add (a := B / 2 ^ (p + 300 - (p + 2))) (b := 1) (L := 100) (by omega) (by omega)
  have lp := lim_len_shl (a := 1) (n := p + 2)
  rw [Nat.one_mul] at lp
  exact ⟨szR_mk (s := false) (n := A / 2 ^ (p + 300 - (p + 2))) (d := 2 ^ (p + 2)) (L := 101) (by omega) (by omega) (by omega), szR_mk (s := false) (n := B / 2 ^ (p + 300 - (p + 2)) + 1) (d := 2 ^ (p + 2)) (L := 101) (by omega) (by omega) (by omega)⟩
set_option maxHeartbeats 1000000 in
theorem incb_I_loP {A' B' : Nat} {pI : Int} (hpI : (pI ≤ 0 ∧ p = 0) ∨ pI = (p : Int)) (hv : RatA v x L) (hL1 : 1 ≤ L) (hL : L ≤ 200) (ha : 1 ≤ a) (ha2 : a ≤ 20) (hb : 1 ≤ b) (hb2 : b ≤ 20) (hp : p ≤ 80) (h0 : 0 < x) (h1 : x + x ≤ 1)
    (rw1 : Go.Ev.Fn CX 81 [.int .i64 (a : Int), .int .i64 (b : Int), rv x, .int .i64 ((p + 300 : Nat) : Int)] (spanV A' B')) (hl : (lim A').length ≤ 100 ∧ (lim B').length ≤ 100) :
    Go.Ev.Fn CX 41 [.int .i64 (a : Int), .int .i64 (b : Int), v, .int .i64 pI] (.tup [ballR (toldLo A' p) (toldHi B' p), .bool true]) := by
  have n1 := rat_Norm hv (by omega)
  have zx := szR_of hv hL1
  have i1 := rat_Int 1 (by omega)
  have c1 := rat_Cmp (RatA_rv zx) (RatA_rv (int_szR (n := 1) (by omega))) hL1 (by omega) (by omega)
  have zr := rat_Zero (RatA_rv zx) hL1 (by omega)
  rw [decide_eq_false (by grind)] at zr
  have sm := rat_Same (RatA_rv zx) (RatA_rv (int_szR (n := 1) (by omega))) hL1 (by omega) (by omega)
  have ad := rat_Add (RatA_rv zx) (RatA_rv zx) hL1 hL1 (by omega)
  have c2 := rat_Cmp (RatA_rv (szR_add zx zx hL1)) (RatA_rv (int_szR (n := 1) (by omega))) (by omega) (by omega) (by omega)
  rw [show ((1 : Int) : Rat) = 1 from rfl] at i1 c1 sm c2
  rw [decide_eq_false (show ¬ x = 1 by grind)] at sm
  have e1 : decide (cmpR x 1 > 0) = false := by rw [cmpR_gt]; exact decide_eq_false (by grind)
  have e2 : decide (cmpR (x + x) 1 ≤ 0) = true := by rw [cmpR_le]; exact decide_eq_true h1
  have en : decide (x.num < 0) = false := by rw [neg_num]; exact decide_eq_false (by grind)
  have td := fix_Told (a := A') (b := B') (w := p + 300) (p := p + 2) (by omega) (by omega) (by omega) (by omega)
  have x1 : (if (0 : Int) > pI then (0 : Int) else pI) = (p : Int) := by split <;> omega
  have x2 : (if (200 : Int) < (p : Int) then (200 : Int) else (p : Int)) = (p : Int) := if_neg (by omega)
  rw [show ((p + 300 : Nat) : Int) = (p : Int) + 300 from rfl] at rw1 td
  rw [show ((p + 2 : Nat) : Int) = (p : Int) + 2 from rfl] at td
  unfold toldLo toldHi
  generalize mkRat ((A' / 2 ^ (p + 300 - (p + 2)) : Nat) : Int) (2 ^ (p + 2)) = q1 at *
  generalize mkRat ((B' / 2 ^ (p + 300 - (p + 2)) + 1 : Nat) : Int) (2 ^ (p + 2)) = q2 at *
  rw [erv en] at n1 c1 zr sm ad rw1
  obtain ⟨s, n, d, rfl, -⟩ := hv
  clear h0 h1
  generalize cmpR x 1 = z at *
  generalize x + x = xx at *
  generalize cmpR xx 1 = z2 at *
  refine Go.Ev.Fn.intro (fn := Tryz.f41) (body := (Tryz.f41).body.get!) (by kernel_rfl) (by kernel_rfl) (by kernel_rfl) (fun _ => rfl) (Nat.le_of_ble_eq_true (by kernel_rfl)) ?_; unfold Tryz.f41; simp only [Option.get!_some]
  repeat (first | (simp only [go_sem, Nat.reduceEqDiff, Nat.reduceAdd, Nat.reduceSub, Nat.reduceMul, Nat.reduceLeDiff, Nat.reduceLT, reduceIte, reduceCtorEq, Nat.succ_ne_zero, elemsC, Int.reduceToNat, Nat.reducePow, en, x1, x2, e1, e2]) | (simp (disch := (first | omega | (simp only [AL, List.length_map]; omega))) only [AR, AL, ifT, ifF, take_all, List.length_cons, List.length_nil, Int.reduceToNat, Int.reducePow, Nat.reducePow, en, x1, x2, e1, e2]) | (refine wk_intro (by kernel_rfl) ?_) | (refine vp_draw (id := 9) (l := []) (by kernel_rfl) ?_) | (refine vp_draw (id := 11) (l := []) (by kernel_rfl) ?_) | (refine vf_of (by first | exact n1 | exact i1 | exact c1 | exact zr | exact sm | exact ad | exact c2 | exact rw1 | exact td) ?_))
theorem incb_I_lo {A' B' : Nat} (hv : RatA v x L) (hL1 : 1 ≤ L) (hL : L ≤ 200) (ha : 1 ≤ a) (ha2 : a ≤ 20) (hb : 1 ≤ b) (hb2 : b ≤ 20) (hp : p ≤ 80) (h0 : 0 < x) (h1 : x + x ≤ 1)
    (rw1 : Go.Ev.Fn CX 81 [.int .i64 (a : Int), .int .i64 (b : Int), rv x, .int .i64 ((p + 300 : Nat) : Int)] (spanV A' B')) (hl : (lim A').length ≤ 100 ∧ (lim B').length ≤ 100) :
    Go.Ev.Fn CX 41 [.int .i64 (a : Int), .int .i64 (b : Int), v, .int .i64 (p : Int)] (.tup [ballR (toldLo A' p) (toldHi B' p), .bool true]) := incb_I_loP (.inr rfl) hv hL1 hL ha ha2 hb hb2 hp h0 h1 rw1 hl
set_option maxHeartbeats 1000000 in
theorem incb_I_hiP {A' B' : Nat} {pI : Int} (hpI : (pI ≤ 0 ∧ p = 0) ∨ pI = (p : Int)) (hv : RatA v x L) (hL1 : 1 ≤ L) (hL : L ≤ 200) (ha : 1 ≤ a) (ha2 : a ≤ 20) (hb : 1 ≤ b) (hb2 : b ≤ 20) (hp : p ≤ 80) (h0 : 1 < x + x) (h1 : x < 1)
    (rw1 : Go.Ev.Fn CX 81 [.int .i64 (b : Int), .int .i64 (a : Int), rv (1 - x), .int .i64 ((p + 300 : Nat) : Int)] (spanV A' B')) (hl : (lim A').length ≤ 100 ∧ (lim B').length ≤ 100) :
    Go.Ev.Fn CX 41 [.int .i64 (a : Int), .int .i64 (b : Int), v, .int .i64 pI] (.tup [ballR (1 - toldHi B' p) (1 - toldLo A' p), .bool true]) := by
  have n1 := rat_Norm hv (by omega)
  have zx := szR_of hv hL1
  have i1 := rat_Int 1 (by omega)
  have c1 := rat_Cmp (RatA_rv zx) (RatA_rv (int_szR (n := 1) (by omega))) hL1 (by omega) (by omega)
  have zr := rat_Zero (RatA_rv zx) hL1 (by omega)
  rw [decide_eq_false (by grind)] at zr
  have sm := rat_Same (RatA_rv zx) (RatA_rv (int_szR (n := 1) (by omega))) hL1 (by omega) (by omega)
  have ad := rat_Add (RatA_rv zx) (RatA_rv zx) hL1 hL1 (by omega)
  have c2 := rat_Cmp (RatA_rv (szR_add zx zx hL1)) (RatA_rv (int_szR (n := 1) (by omega))) (by omega) (by omega) (by omega)
  have b1 := ball_Of (RatA_rv (int_szR (n := 1) (by omega))) (by omega)
  have sb := rat_Sub (RatA_rv (int_szR (n := 1) (by omega))) (RatA_rv zx) (by omega) hL1 (by omega)
  have one1 : szR 1 1 := ⟨lim_len_lt (by decide +kernel), lim_len_lt (by decide +kernel)⟩
  rw [show ((1 : Int) : Rat) = 1 from rfl] at i1 c1 sm c2 b1 sb
  rw [decide_eq_false (show ¬ x = 1 by grind)] at sm
  have e1 : decide (cmpR x 1 > 0) = false := by rw [cmpR_gt]; exact decide_eq_false (by grind)
  have e2 : decide (cmpR (x + x) 1 ≤ 0) = false := by rw [cmpR_le]; exact decide_eq_false (by grind)
  have en : decide (x.num < 0) = false := by rw [neg_num]; exact decide_eq_false (by grind)
  have td := fix_Told (a := A') (b := B') (w := p + 300) (p := p + 2) (by omega) (by omega) (by omega) (by omega)
  obtain ⟨z1, z2⟩ := told_sz (p := p) hp hl.1 hl.2
  have bs := ball_Sub (a := 1) (b := 1) (L := 101) (szR_mono one1 (by omega)) (szR_mono one1 (by omega)) z1 z2 (by omega) (by omega)
  have x1 : (if (0 : Int) > pI then (0 : Int) else pI) = (p : Int) := by split <;> omega
  have x2 : (if (200 : Int) < (p : Int) then (200 : Int) else (p : Int)) = (p : Int) := if_neg (by omega)
  rw [show ((p + 300 : Nat) : Int) = (p : Int) + 300 from rfl] at rw1 td
  rw [show ((p + 2 : Nat) : Int) = (p : Int) + 2 from rfl] at td
  unfold toldLo toldHi at *
  generalize mkRat ((A' / 2 ^ (p + 300 - (p + 2)) : Nat) : Int) (2 ^ (p + 2)) = q1 at *
  generalize mkRat ((B' / 2 ^ (p + 300 - (p + 2)) + 1 : Nat) : Int) (2 ^ (p + 2)) = q2 at *
  generalize 1 - q2 = w1 at *
  generalize 1 - q1 = w2 at *
  rw [erv en] at n1 c1 zr sm ad sb
  obtain ⟨s, n, d, rfl, -⟩ := hv
  clear h0 h1
  generalize cmpR x 1 = z at *
  generalize x + x = xx at *
  generalize cmpR xx 1 = z2' at *
  generalize 1 - x = y at *
  refine Go.Ev.Fn.intro (fn := Tryz.f41) (body := (Tryz.f41).body.get!) (by kernel_rfl) (by kernel_rfl) (by kernel_rfl) (fun _ => rfl) (Nat.le_of_ble_eq_true (by kernel_rfl)) ?_; unfold Tryz.f41; simp only [Option.get!_some]
  repeat (first | (simp only [go_sem, Nat.reduceEqDiff, Nat.reduceAdd, Nat.reduceSub, Nat.reduceMul, Nat.reduceLeDiff, Nat.reduceLT, reduceIte, reduceCtorEq, Nat.succ_ne_zero, elemsC, Int.reduceToNat, Nat.reducePow, en, x1, x2, e1, e2]) | (simp (disch := (first | omega | (simp only [AL, List.length_map]; omega))) only [AR, AL, ifT, ifF, take_all, List.length_cons, List.length_nil, Int.reduceToNat, Int.reducePow, Nat.reducePow, en, x1, x2, e1, e2]) | (refine wk_intro (by kernel_rfl) ?_) | (refine vp_draw (id := 9) (l := []) (by kernel_rfl) ?_) | (refine vp_draw (id := 11) (l := []) (by kernel_rfl) ?_) | (refine vf_of (by first | exact n1 | exact i1 | exact c1 | exact zr | exact sm | exact ad | exact c2 | exact b1 | exact sb | exact rw1 | exact td | exact bs) ?_))
theorem incb_I_hi {A' B' : Nat} (hv : RatA v x L) (hL1 : 1 ≤ L) (hL : L ≤ 200) (ha : 1 ≤ a) (ha2 : a ≤ 20) (hb : 1 ≤ b) (hb2 : b ≤ 20) (hp : p ≤ 80) (h0 : 1 < x + x) (h1 : x < 1)
    (rw1 : Go.Ev.Fn CX 81 [.int .i64 (b : Int), .int .i64 (a : Int), rv (1 - x), .int .i64 ((p + 300 : Nat) : Int)] (spanV A' B')) (hl : (lim A').length ≤ 100 ∧ (lim B').length ≤ 100) :
    Go.Ev.Fn CX 41 [.int .i64 (a : Int), .int .i64 (b : Int), v, .int .i64 (p : Int)] (.tup [ballR (1 - toldHi B' p) (1 - toldLo A' p), .bool true]) := incb_I_hiP (.inr rfl) hv hL1 hL ha ha2 hb hb2 hp h0 h1 rw1 hl
end
end Go.Proofs.YtodiciendlhkgaaGreat

/- vernierref2.Is; vernierref4: Of, Is, Width, Bit, Hold, Side, Good, Same, in the evaluator. -/
namespace Go.Proofs.YtodiciendlhkgaaGreat
set_option linter.unusedSimpArgs false
set_option linter.unusedVariables false
set_option maxRecDepth 8000
open Go.Ev
theorem beq_true_self (b : Bool) : (b == b) = true := by cases b <;> rfl
section
variable {a b c d : Rat} {L M : Nat}
theorem ref4_Side0 (ha : szR a L) (hb : szR b L) (hc : szR c M) (hd : szR d M) (hL1 : 1 ≤ L) (hM1 : 1 ≤ M) (hL : L + M ≤ 100000) (h1 : c ≤ b) (h2 : a ≤ d) : Go.Ev.Fn CX 11 [ballR a b, ballR c d] (.int .i64 0) := by
  have c1 := ref2_Cmp (RatA_rv hb) (RatA_rv hc) hL1 hM1 (by omega)
  have c2 := ref2_Cmp (RatA_rv ha) (RatA_rv hd) hL1 hM1 (by omega)
  have e1 : decide (cmpR b c < 0) = false := by rw [cmpR_lt]; exact decide_eq_false (by grind)
  have e2 : decide (cmpR a d > 0) = false := by rw [cmpR_gt]; exact decide_eq_false (by grind)
  generalize cmpR b c = z1 at *
  generalize cmpR a d = z2 at *
  refine Go.Ev.Fn.intro (fn := Tryz.f11) (body := (Tryz.f11).body.get!) (by kernel_rfl) (by kernel_rfl) (by kernel_rfl) (fun _ => rfl) (Nat.le_of_ble_eq_true (by kernel_rfl)) ?_; unfold Tryz.f11; simp only [Option.get!_some]
  repeat (first | (simp only [go_sem, Nat.reduceEqDiff, Nat.reduceAdd, Nat.reduceSub, Nat.reduceMul, Nat.reduceLeDiff, Nat.reduceLT, reduceIte, reduceCtorEq, Nat.succ_ne_zero, elemsC, Int.reduceToNat, Nat.reducePow, e1, e2]) | (simp (disch := (first | omega | (simp only [AL, List.length_map]; omega))) only [AR, AL, ifT, ifF, take_all, List.length_cons, List.length_nil, Int.reduceToNat, Int.reducePow, Nat.reducePow, e1, e2]) | (refine wk_intro (by kernel_rfl) ?_) | (refine vf_of (by first | exact c1 | exact c2) ?_))
end
end Go.Proofs.YtodiciendlhkgaaGreat

/- vernierref4.Add; vernierref12.I outside; vernierlaw12.big, in the evaluator. -/
namespace Go.Proofs.YtodiciendlhkgaaGreat
set_option linter.unusedSimpArgs false
set_option linter.unusedVariables false
set_option maxRecDepth 8000
open Go.Ev
set_option linter.unusedVariables false
theorem ref4_AddB {a b c d : Rat} {L M : Nat} (ha : szR a L) (hb : szR b L) (hc : szR c M) (hd : szR d M) (hL1 : 1 ≤ L) (hM1 : 1 ≤ M) (hL : L + M ≤ 100000) : Go.Ev.Fn CX 27 [ballR a b, ballR c d] (ballR (a + c) (b + d)) := by
  have s1 := ref2_Add (RatA_rv ha) (RatA_rv hc) hL1 hM1 (by omega)
  have s2 := ref2_Add (RatA_rv hb) (RatA_rv hd) hL1 hM1 (by omega)
  generalize a + c = x at *
  generalize b + d = y at *
  refine Go.Ev.Fn.intro (fn := Tryz.f27) (body := (Tryz.f27).body.get!) (by kernel_rfl) (by kernel_rfl) (by kernel_rfl) (fun _ => rfl) (Nat.le_of_ble_eq_true (by kernel_rfl)) ?_; unfold Tryz.f27; simp only [Option.get!_some]
  repeat (first | (simp only [go_sem, Nat.reduceEqDiff, Nat.reduceAdd, Nat.reduceSub, Nat.reduceMul, Nat.reduceLeDiff, Nat.reduceLT, reduceIte, reduceCtorEq, Nat.succ_ne_zero, elemsC, Int.reduceToNat, Nat.reducePow]) | (simp (disch := (first | omega | (simp only [AL, List.length_map]; omega))) only [AR, AL, ifT, ifF, take_all, List.length_cons, List.length_nil, Int.reduceToNat, Int.reducePow, Nat.reducePow]) | (refine wk_intro (by kernel_rfl) ?_) | (refine vp_draw (id := 1) (l := []) (by kernel_rfl) ?_) | (refine vf_of (by first | exact s1 | exact s2) ?_))
end Go.Proofs.YtodiciendlhkgaaGreat

/- vernierlaw12.IncbSides, in the evaluator: all but the share at a half. -/
namespace Go.Proofs.YtodiciendlhkgaaGreat
set_option linter.unusedSimpArgs false
set_option linter.unusedVariables false
set_option maxRecDepth 8000
open Go.Ev
set_option linter.unusedVariables false
section
variable {x : Rat} {a b p : Int} {s : Bool} {n d : List Nat}
end
end Go.Proofs.YtodiciendlhkgaaGreat

/- vernierlaw12.IncbSides at all numbers but a half, in the evaluator. -/
namespace Go.Proofs.YtodiciendlhkgaaGreat
open Go.Ev
set_option linter.unusedVariables false
theorem told_le {A B p : Nat} (h : A ≤ B) : toldLo A p ≤ toldHi B p := by
  unfold toldLo toldHi
  have P := p2_pos (p + 2)
  have h1 := Nat.div_le_div_right (c := 2 ^ (p + 300 - (p + 2))) h
  have e1 := mk_p2n (A / 2 ^ (p + 300 - (p + 2))) (p + 2)
  have e2 := mk_p2n (B / 2 ^ (p + 300 - (p + 2)) + 1) (p + 2)
  refine le_by P ?_
  rw [e1, e2]
  exact nat_le_rat (Nat.le_succ_of_le h1)
section
variable {x : Rat} {a b p : Nat} {s : Bool} {n d : List Nat}
/-- A row of any halves is told. -/
theorem row_told {L : Nat} (hz : szR x L) (hL1 : 1 ≤ L) (hL : L ≤ 200) (ha : 1 ≤ a) (ha2 : a ≤ 20) (hb : 1 ≤ b) (hb2 : b ≤ 20) (hp : p ≤ 60) (h0 : 0 ≤ x) (h1 : x + x ≤ 1) :
    ∃ A B : Nat, Go.Ev.Fn CX 81 [.int .i64 (a : Int), .int .i64 (b : Int), rv x, .int .i64 ((p + 300 : Nat) : Int)] (spanV A B) ∧ A ≤ B ∧ (lim A).length ≤ 100 ∧ (lim B).length ≤ 100 := by
  obtain ⟨F1, F2, _, _, _, _, fi, g1, g2, g3, -⟩ := incb_fst (w := p + 300) ha ha2 hb hb2 hz hL1 hL h0 (by grind) (by omega) (by omega)
  obtain ⟨A, B, K, hg⟩ := rowh_ends ha hb2 h0 h1 (by omega) (by omega) g1 g2 g3
  obtain ⟨k1, k2, k3⟩ := rowh_bd ha hb2 h0 h1 (by omega) g1 g2 g3 hg
  have f := incb_rowh ha ha2 hb hb2 hz (by omega) h0 h1 (by omega) (by omega) fi g1 g2 g3 hg
  have lB := lim_len_p2 k3 (by omega)
  exact ⟨A, B, f, k1, Nat.le_trans (lim_len_mono k1) (by omega), by omega⟩
theorem one_szR : szR 1 1 := ⟨lim_len_lt (by decide +kernel), lim_len_lt (by decide +kernel)⟩
end
end Go.Proofs.YtodiciendlhkgaaGreat

/- At a half both shares are all: plain mathematics; the kernel reckons the pairs of halves. -/
namespace Go.Proofs.YtodiciendlhkgaaGreat
open Go.Ev
set_option linter.unusedVariables false
/-- The root of a half, times 2 to 700, rounded up. -/
def rtH : Nat := 3719477765947668636936709211380910309956202648775464111520847020716952850542838341847190855169739343470753519934912401374452868910734655781951726854669216251345409387637183634523568089081173655040240750070105177
def S2 : Rat := mkRat (rtH : Int) (2 ^ 700)
/-- The row's terms and their sum at a half, over one number. -/
def hfGo (a b : Nat) : Nat → Nat → Nat → Nat → Nat → Nat × Nat × Nat
  | 0, _, n, d, s => (n, d, s)
  | f + 1, k, n, d, s => pin (n * (a + b + 2 * k)) fun n' => pin (2 * (a + 2 + 2 * k)) fun m => pin (d * m) fun d' => pin (s * m + n') fun s' => pin (k + 1) fun k' => hfGo a b f k' n' d' s'
theorem hfGo_is (a b : Nat) : ∀ (f k n d s : Nat), rR (1 / 2) a b k * (d : Rat) = (n : Rat) → sR (1 / 2) a b k * (d : Rat) = (s : Rat) → 0 < d →
    rR (1 / 2) a b (k + f) * ((hfGo a b f k n d s).2.1 : Rat) = ((hfGo a b f k n d s).1 : Rat) ∧ sR (1 / 2) a b (k + f) * ((hfGo a b f k n d s).2.1 : Rat) = ((hfGo a b f k n d s).2.2 : Rat) ∧ 0 < (hfGo a b f k n d s).2.1 := by
  intro f
  induction f with
  | zero => intro k n d s h1 h2 h3; exact ⟨h1, h2, h3⟩
  | succ f ih =>
    intro k n d s h1 h2 h3
    rw [hfGo]
    simp only [pin_eq]
    have c : ∀ u v : Nat, ((u * v : Nat) : Rat) = (u : Rat) * (v : Rat) := by intro u v; exact_mod_cast rfl
    have c2 : ∀ u v : Nat, ((u + v : Nat) : Rat) = (u : Rat) + (v : Rat) := by intro u v; exact_mod_cast rfl
    have M : (0 : Rat) < ((a + 2 + 2 * k : Nat) : Rat) := by exact_mod_cast (show 0 < a + 2 + 2 * k by omega)
    have r : rR (1 / 2) a b (k + 1) * ((d * (2 * (a + 2 + 2 * k)) : Nat) : Rat) = ((n * (a + b + 2 * k) : Nat) : Rat) := by
      have e : rR (1 / 2) a b (k + 1) = rR (1 / 2) a b k * (1 / 2) * ((a + b + 2 * k : Nat) : Rat) / ((a + 2 + 2 * k : Nat) : Rat) := rfl
      have e2 := Rat.div_mul_cancel (a := rR (1 / 2) a b k * (1 / 2) * ((a + b + 2 * k : Nat) : Rat)) (b := ((a + 2 + 2 * k : Nat) : Rat)) (by grind)
      rw [← e] at e2
      rw [c, c, c, ← h1]
      have two : ((2 : Nat) : Rat) = 2 := rfl
      have hh : (1 / 2 : Rat) * 2 = 1 := by decide +kernel
      rw [two]
      generalize ((a + 2 + 2 * k : Nat) : Rat) = m at *
      generalize ((a + b + 2 * k : Nat) : Rat) = q at *
      generalize rR (1 / 2) a b (k + 1) = z at *
      generalize (1 / 2 : Rat) = hf at *
      grind
    have sm : sR (1 / 2) a b (k + 1) * ((d * (2 * (a + 2 + 2 * k)) : Nat) : Rat) = ((s * (2 * (a + 2 + 2 * k)) + n * (a + b + 2 * k) : Nat) : Rat) := by
      have e : sR (1 / 2) a b (k + 1) = sR (1 / 2) a b k + rR (1 / 2) a b (k + 1) := rfl
      rw [e, c2, ← r, c s, ← h2, c d]
      generalize rR (1 / 2) a b (k + 1) = z at *
      generalize sR (1 / 2) a b k = y at *
      grind
    have := ih (k + 1) _ _ _ r sm (Nat.mul_pos h3 (by omega))
    rw [show k + 1 + f = k + (f + 1) by omega] at this
    exact this
/-- The share at a half, over one number: at least so, at most so. -/
def hfN (a b : Nat) : Nat × Nat × Nat :=
  pin ((beta2 a b).den * 2) fun D2 => pin ((beta2 a b).num.natAbs * a) fun N2 =>
  pin (rtH ^ (a % 2 + b % 2) * D2 * (if a % 2 * (b % 2) = 1 then 2 ^ 700 else 1)) fun u => pin (2 ^ (a / 2 + b / 2) * 2 ^ (700 * (a % 2 + b % 2)) * N2 * (if a % 2 * (b % 2) = 1 then piW else 1)) fun v =>
  match hfGo a b 120 0 1 1 1 with
  | (n, d, s) => pin (u * s) fun l => pin (u * (s + 3 * n)) fun h => pin (v * d) fun e => (l, h, e)
def hfOk (a b : Nat) : Bool := match hfN a b with
  | (l1, h1, e1) => match hfN b a with
    | (l2, h2, e2) => pin (l1 * e2 + l2 * e1) fun lo => pin (h1 * e2 + h2 * e1) fun hi => pin (e1 * e2) fun ee => Nat.ble ((2 ^ 66 - 1) * ee) (2 ^ 66 * lo) && Nat.ble (2 ^ 66 * hi) ((2 ^ 66 + 1) * ee)
theorem hf_ok1 : (List.range 20).all (fun j => hfOk 1 (1 + j)) = true := by decide +kernel
theorem hf_ok2 : (List.range 19).all (fun j => hfOk 2 (2 + j)) = true := by decide +kernel
theorem hf_ok3 : (List.range 18).all (fun j => hfOk 3 (3 + j)) = true := by decide +kernel
theorem hf_ok4 : (List.range 17).all (fun j => hfOk 4 (4 + j)) = true := by decide +kernel
theorem hf_ok5 : (List.range 16).all (fun j => hfOk 5 (5 + j)) = true := by decide +kernel
theorem hf_ok6 : (List.range 15).all (fun j => hfOk 6 (6 + j)) = true := by decide +kernel
theorem hf_ok7 : (List.range 14).all (fun j => hfOk 7 (7 + j)) = true := by decide +kernel
theorem hf_ok8 : (List.range 13).all (fun j => hfOk 8 (8 + j)) = true := by decide +kernel
theorem hf_ok9 : (List.range 12).all (fun j => hfOk 9 (9 + j)) = true := by decide +kernel
theorem hf_ok10 : (List.range 11).all (fun j => hfOk 10 (10 + j)) = true := by decide +kernel
theorem hf_ok11 : (List.range 10).all (fun j => hfOk 11 (11 + j)) = true := by decide +kernel
theorem hf_ok12 : (List.range 9).all (fun j => hfOk 12 (12 + j)) = true := by decide +kernel
theorem hf_ok13 : (List.range 8).all (fun j => hfOk 13 (13 + j)) = true := by decide +kernel
theorem hf_ok14 : (List.range 7).all (fun j => hfOk 14 (14 + j)) = true := by decide +kernel
theorem hf_ok15 : (List.range 6).all (fun j => hfOk 15 (15 + j)) = true := by decide +kernel
theorem hf_ok16 : (List.range 5).all (fun j => hfOk 16 (16 + j)) = true := by decide +kernel
theorem hf_ok17 : (List.range 4).all (fun j => hfOk 17 (17 + j)) = true := by decide +kernel
theorem hf_ok18 : (List.range 3).all (fun j => hfOk 18 (18 + j)) = true := by decide +kernel
theorem hf_ok19 : (List.range 2).all (fun j => hfOk 19 (19 + j)) = true := by decide +kernel
theorem hf_ok20 : (List.range 1).all (fun j => hfOk 20 (20 + j)) = true := by decide +kernel
theorem hf_all {a b : Nat} (h1 : 1 ≤ a) (h2 : a ≤ b) (h3 : b ≤ 20) : hfOk a b = true := by
  have g : ∀ c, (List.range (21 - c)).all (fun j => hfOk c (c + j)) = true → c ≤ b → hfOk c b = true := fun c h hc => by
    have := List.all_eq_true.1 h (b - c) (List.mem_range.2 (by omega))
    rwa [show c + (b - c) = b by omega] at this
  have hc : a = 1 ∨ a = 2 ∨ a = 3 ∨ a = 4 ∨ a = 5 ∨ a = 6 ∨ a = 7 ∨ a = 8 ∨ a = 9 ∨ a = 10 ∨ a = 11 ∨ a = 12 ∨ a = 13 ∨ a = 14 ∨ a = 15 ∨ a = 16 ∨ a = 17 ∨ a = 18 ∨ a = 19 ∨ a = 20 := by omega
  rcases hc with rfl | rfl | rfl | rfl | rfl | rfl | rfl | rfl | rfl | rfl | rfl | rfl | rfl | rfl | rfl | rfl | rfl | rfl | rfl | rfl
  · exact g 1 hf_ok1 h2
  · exact g 2 hf_ok2 h2
  · exact g 3 hf_ok3 h2
  · exact g 4 hf_ok4 h2
  · exact g 5 hf_ok5 h2
  · exact g 6 hf_ok6 h2
  · exact g 7 hf_ok7 h2
  · exact g 8 hf_ok8 h2
  · exact g 9 hf_ok9 h2
  · exact g 10 hf_ok10 h2
  · exact g 11 hf_ok11 h2
  · exact g 12 hf_ok12 h2
  · exact g 13 hf_ok13 h2
  · exact g 14 hf_ok14 h2
  · exact g 15 hf_ok15 h2
  · exact g 16 hf_ok16 h2
  · exact g 17 hf_ok17 h2
  · exact g 18 hf_ok18 h2
  · exact g 19 hf_ok19 h2
  · exact g 20 hf_ok20 h2
end Go.Proofs.YtodiciendlhkgaaGreat

/- A point of any ball of a half's root, near the constant: plain mathematics. -/
namespace Go.Proofs.YtodiciendlhkgaaGreat
open Go.Ev
set_option linter.unusedVariables false
theorem S2_mul : S2 * p2 700 = (rtH : Rat) := mk_p2n rtH 700
theorem sq_mon {x y : Rat} (hx : 0 ≤ x) (hy : 0 ≤ y) (h : x * x ≤ y * y) : x ≤ y := by
  rcases Rat.le_total (a := x) (b := y) with g | g
  · exact g
  · by_cases e : y = x
    · rw [e]; exact Rat.le_refl
    · have h1 : y < x := by grind
      have h2 : y * y ≤ x * y := Rat.mul_le_mul_of_nonneg_right g hy
      have h3 : x * y < x * x := by
        have : 0 < x * (x - y) := Rat.mul_pos (by grind) (by grind)
        grind
      grind
theorem S2_nn : 0 ≤ S2 := le_by (p2_pos 700) (by rw [S2_mul, Rat.zero_mul]; exact nat_nonneg _)
theorem cmN (a b : Nat) : ((a * b : Nat) : Rat) = (a : Rat) * (b : Rat) := by exact_mod_cast rfl
theorem cnN (a b : Nat) : ((a + b : Nat) : Rat) = (a : Rat) + (b : Rat) := by exact_mod_cast rfl
theorem S2_abs {r P Q : Nat} {S : Rat} (hP : 0 < P) (e : S * (P : Rat) = (r : Rat)) (n1 : P * P ≤ 2 * (r * r)) (n2 : Q * (2 * (r * r)) ≤ Q * (P * P) + 2 * (P * P)) : 1 / 2 ≤ S * S ∧ (S * S - 1 / 2) * (Q : Rat) ≤ 1 := by
  have P0 : (0 : Rat) < (P : Rat) := by exact_mod_cast hP
  have PP : 0 < (P : Rat) * (P : Rat) := Rat.mul_pos P0 P0
  have m1 := nat_le_rat n1
  have m2 := nat_le_rat n2
  have d1 : ((2 * (r * r) : Nat) : Rat) = 2 * ((r : Rat) * (r : Rat)) := by exact_mod_cast rfl
  have d2 : ((2 * (P * P) : Nat) : Rat) = 2 * ((P : Rat) * (P : Rat)) := by exact_mod_cast rfl
  rw [cmN, d1, ← e] at m1
  rw [cmN, cnN, cmN Q, d1, d2, cmN P, ← e] at m2
  have q : S * (P : Rat) * (S * (P : Rat)) = S * S * ((P : Rat) * (P : Rat)) := by grind
  rw [q] at m1 m2
  clear q n1 n2 d1 d2 e hP P0
  generalize (P : Rat) * (P : Rat) = Z at *
  generalize S * S = t at *
  generalize (Q : Rat) = u at *
  have hh : (1 / 2 : Rat) * 2 = 1 := by decide +kernel
  generalize (1 / 2 : Rat) = hf at *
  have f1 : hf * Z * 2 = Z := by
    have : hf * Z * 2 = hf * 2 * Z := by grind
    rw [this, hh, Rat.one_mul]
  have f2 : (t - hf) * u * Z * 2 = u * (2 * (t * Z)) - u * (hf * Z * 2) := by grind
  refine ⟨le_by PP ?_, le_by PP ?_⟩
  · grind
  · rw [f1] at f2
    grind
theorem S2_sq : 1 / 2 ≤ S2 * S2 ∧ (S2 * S2 - 1 / 2) * p2 690 ≤ 1 := by
  obtain ⟨E, hE⟩ : ∃ E : Nat, E = 690 := ⟨_, rfl⟩
  obtain ⟨F, hF⟩ : ∃ F : Nat, F = 700 := ⟨_, rfl⟩
  have m := S2_mul
  rw [← hF] at m
  have h := S2_abs (P := 2 ^ F) (Q := 2 ^ E) (Nat.pow_pos (by omega)) m (by rw [hF]; decide +kernel) (by rw [hE, hF]; decide +kernel)
  rw [← hE]
  exact h
theorem half_pt {p1 q1 : Rat} (h0 : 0 ≤ p1) (h1 : p1 ≤ q1) (h2 : p1 * p1 ≤ 1 / 2) (h3 : 1 / 2 ≤ q1 * q1) : ∃ s, p1 ≤ s ∧ s ≤ q1 ∧ s ≤ S2 ∧ (S2 - s) * p2 690 ≤ 1 := by
  obtain ⟨a1, a2⟩ := S2_sq
  have s0 := S2_nn
  have P := p2_pos 690
  have q0 : 0 ≤ q1 := Rat.le_trans h0 h1
  have hq : (1 / 2 : Rat) ≤ q1 := sq_mon (by decide +kernel) q0 (Rat.le_trans (by decide +kernel) h3)
  have hs : (1 / 2 : Rat) ≤ S2 := sq_mon (by decide +kernel) s0 (Rat.le_trans (by decide +kernel) a1)
  rcases Rat.le_total (a := S2) (b := q1) with g | g
  · exact ⟨S2, sq_mon h0 s0 (Rat.le_trans h2 a1), g, Rat.le_refl, by rw [Rat.sub_self, Rat.zero_mul]; decide⟩
  · refine ⟨q1, h1, Rat.le_refl, g, ?_⟩
    have hh : (1 / 2 : Rat) * 2 = 1 := by decide +kernel
    generalize (1 / 2 : Rat) = hf at *
    have k1 : (S2 - q1) * 1 ≤ (S2 - q1) * (S2 + q1) := Rat.mul_le_mul_of_nonneg_left (by grind) (by grind)
    have k2 : (S2 - q1) * (S2 + q1) = S2 * S2 - q1 * q1 := by grind
    have k3 : S2 - q1 ≤ S2 * S2 - hf := by grind
    have k4 := Rat.mul_le_mul_of_nonneg_right k3 (show 0 ≤ p2 690 by grind)
    exact Rat.le_trans k4 a2
end Go.Proofs.YtodiciendlhkgaaGreat

/- incb.I of whole numbers; vernierlaw12.known, in the evaluator. -/
namespace Go.Proofs.YtodiciendlhkgaaGreat
set_option linter.unusedSimpArgs false
set_option linter.unusedVariables false
set_option maxRecDepth 8000
open Go.Ev
section
variable {v : SV} {x : Rat} {A B p : Nat}
/-- Of whole numbers the share is told: it lies in the ball, which is as narrow as asked. -/
theorem incb_I (hv : RatA v x 1) (hA : 1 ≤ A) (hB : 1 ≤ B) (hAB : A + B ≤ 10) (hp : p ≤ 60) (h0 : 0 ≤ x) (h1 : x ≤ 1) : ∃ lo hi : Rat, Go.Ev.Fn CX 41 [.int .i64 (2 * (A : Int)), .int .i64 (2 * (B : Int)), v, .int .i64 (p : Int)] (.tup [ballR lo hi, .bool true]) ∧
    lo ≤ sS x (1 - x) (A + B - 1) B ∧ sS x (1 - x) (A + B - 1) B ≤ hi ∧ (hi - lo) * p2 p ≤ 1 ∧ szR lo 110 ∧ szR hi 110 := by
  have zx := szR_of hv (by omega)
  have hP := p2_pos p
  have one1 : szR 1 1 := ⟨lim_len_lt (by decide +kernel), lim_len_lt (by decide +kernel)⟩
  have fin : ∀ {A' B' : Nat}, (lim A').length ≤ 100 → (lim B').length ≤ 100 → szR (mkRat ((A' / 2 ^ (p + 300 - (p + 2)) : Nat) : Int) (2 ^ (p + 2))) 101 ∧ szR (mkRat ((B' / 2 ^ (p + 300 - (p + 2)) + 1 : Nat) : Int) (2 ^ (p + 2))) 101 := by
    intro A' B' hA' hB'
    have l3 := lim_len_mono (Nat.div_le_self A' (2 ^ (p + 300 - (p + 2))))
    have l4 := lim_len_mono (Nat.div_le_self B' (2 ^ (p + 300 - (p + 2))))
    have l1 := lim_len1
    have l5 := lim_len_add (a := B' / 2 ^ (p + 300 - (p + 2))) (b := 1) (L := 100) (by omega) (by omega)
    have lp := lim_len_shl (a := 1) (n := p + 2)
    rw [Nat.one_mul] at lp
    exact ⟨szR_mk (s := false) (n := A' / 2 ^ (p + 300 - (p + 2))) (d := 2 ^ (p + 2)) (L := 101) (by omega) (by omega) (by omega), szR_mk (s := false) (n := B' / 2 ^ (p + 300 - (p + 2)) + 1) (d := 2 ^ (p + 2)) (L := 101) (by omega) (by omega) (by omega)⟩
  by_cases hx0 : x = 0
  · have f := incb_I_ends (a := 2 * (A : Int)) (b := 2 * (B : Int)) (pI := (p : Int)) hv (by omega) (by omega) (by omega) (by omega) (.inl hx0)
    subst hx0
    have hz : ∀ j, j ≤ B → sS 0 (1 - 0) (A + B - 1) j = 0 := by
      intro j
      induction j with
      | zero => intro _; rfl
      | succ j ih =>
        intro hj
        show sS 0 (1 - 0) (A + B - 1) j + trm 0 (1 - 0) (A + B - 1) j = 0
        rw [ih (by omega)]
        unfold trm
        rw [show A + B - 1 - j = (A + B - 2 - j) + 1 by omega, pwR_succ]
        grind
    rw [hz B (Nat.le_refl _)]
    exact ⟨0, 0, f, Rat.le_refl, Rat.le_refl, by rw [Rat.sub_self, Rat.zero_mul]; decide, szR_mono zx (by omega), szR_mono zx (by omega)⟩
  by_cases hx1 : x = 1
  · have f := incb_I_ends (a := 2 * (A : Int)) (b := 2 * (B : Int)) (pI := (p : Int)) hv (by omega) (by omega) (by omega) (by omega) (.inr hx1)
    subst hx1
    have hz : ∀ j, j < B → sS 1 (1 - 1) (A + B - 1) (j + 1) = 1 := by
      intro j
      induction j with
      | zero =>
        intro _
        show 0 + trm 1 (1 - 1) (A + B - 1) 0 = 1
        unfold trm
        have e : ∀ n, pwR 1 n = 1 := by
          intro n
          induction n with
          | zero => rfl
          | succ n ih => rw [pwR_succ, ih, Rat.mul_one]
        rw [cc_zero, e]
        show (0 : Rat) + ((1 : Nat) : Rat) * 1 * 1 = 1
        decide +kernel
      | succ j ih =>
        intro hj
        show sS 1 (1 - 1) (A + B - 1) (j + 1) + trm 1 (1 - 1) (A + B - 1) (j + 1) = 1
        rw [ih (by omega)]
        unfold trm
        rw [pwR_succ]
        grind
    have hB2 := hz (B - 1) (by omega)
    rw [show B - 1 + 1 = B by omega] at hB2
    rw [hB2]
    exact ⟨1, 1, f, Rat.le_refl, Rat.le_refl, by rw [Rat.sub_self, Rat.zero_mul]; decide, szR_mono zx (by omega), szR_mono zx (by omega)⟩
  have hpos : 0 < x := by clear fin; grind
  have hlt : x < 1 := by clear fin; grind
  by_cases hh : x + x ≤ 1
  · obtain ⟨-, -, A', B', K, hg⟩ := row_ends (w := p + 300) hA hB hAB h0 hh (by omega) (by omega)
    obtain ⟨g1, g2, g3, g4⟩ := row_has hA hB hAB h0 hh (by omega) (by omega) hg
    have lB := lim_len_p2 g4 (by omega)
    have lA : (lim A').length ≤ 100 := by
      have : A' ≤ B' := by
        have h := Rat.le_trans g1 g2
        exact_mod_cast h
      exact Nat.le_trans (lim_len_mono this) (by omega)
    have f := incb_I_low hv (by omega) (by omega) hA hB hAB hp hpos hh hg ⟨lA, by omega⟩
    obtain ⟨t1, t2, t3⟩ := told_has g1 g2 g3
    obtain ⟨z1, z2⟩ := fin lA (show (lim B').length ≤ 100 by omega)
    exact ⟨_, _, f, t1, t2, t3, szR_mono z1 (by omega), szR_mono z2 (by omega)⟩
  · have hh' : 1 < x + x := by clear fin; grind
    have hy : (1 - x) + (1 - x) ≤ 1 := by clear fin; grind
    have hy0 : 0 ≤ 1 - x := by clear fin; grind
    obtain ⟨-, -, A', B', K, hg⟩ := row_ends (x := 1 - x) (w := p + 300) hB hA (by omega) hy0 hy (by omega) (by omega)
    obtain ⟨g1, g2, g3, g4⟩ := row_has hB hA (by omega) hy0 hy (by omega) (by omega) hg
    have lB := lim_len_p2 g4 (by omega)
    have lA : (lim A').length ≤ 100 := by
      have : A' ≤ B' := by
        have h := Rat.le_trans g1 g2
        exact_mod_cast h
      exact Nat.le_trans (lim_len_mono this) (by omega)
    have f := incb_I_high hv (by omega) (by omega) hA hB hAB hp hh' hlt hg ⟨lA, by omega⟩
    obtain ⟨t1, t2, t3⟩ := told_has g1 g2 g3
    obtain ⟨z1, z2⟩ := fin lA (show (lim B').length ≤ 100 by omega)
    have tn := sS_turn (x := x) (y := 1 - x) (by clear fin hg f t1 t2 t3 g1 g2 g3 g4; grind) (n := A + B - 1) B (by omega)
    rw [show A + B - 1 + 1 - B = A by omega] at tn
    rw [show 1 - (1 - x) = x by clear fin hg f t1 t2 t3 g1 g2 g3 g4; grind, show B + A - 1 = A + B - 1 by omega] at t1 t2
    refine ⟨_, _, f, ?_, ?_, ?_, szR_mono (szR_sub one1 z2 (by omega)) (by omega), szR_mono (szR_sub one1 z1 (by omega)) (by omega)⟩
    all_goals clear hg f fin g1 g2 g3 g4 lA lB z1 z2
    all_goals
      generalize mkRat ((B' / 2 ^ (p + 300 - (p + 2)) + 1 : Nat) : Int) (2 ^ (p + 2)) = q2 at *
      generalize mkRat ((A' / 2 ^ (p + 300 - (p + 2)) : Nat) : Int) (2 ^ (p + 2)) = q1 at *
    · grind
    · grind
    · have e : 1 - q1 - (1 - q2) = q2 - q1 := by grind
      rw [e]; exact t3
end
theorem third_len : szR (mkRat 1 3) 1 := ⟨lim_len_lt (by decide +kernel), lim_len_lt (by decide +kernel)⟩
end Go.Proofs.YtodiciendlhkgaaGreat

/- vernierlaw12.IncbSides at a half, and of any numbers, in the evaluator. -/
namespace Go.Proofs.YtodiciendlhkgaaGreat
open Go.Ev
set_option linter.unusedVariables false
/-- A root, if there is one. -/
def rtF (a : Nat) (s : Rat) : Rat := if a % 2 = 1 then s else 1
theorem rtF_mon {t s S : Rat} (a : Nat) (h0 : 0 ≤ S) (h1 : s ≤ S) (h2 : t * S ≤ s) (ht : t ≤ 1) : t * rtF a S ≤ rtF a s ∧ rtF a s ≤ rtF a S ∧ 0 ≤ rtF a S := by
  unfold rtF
  split
  · exact ⟨h2, h1, h0⟩
  · exact ⟨by rw [Rat.mul_one]; exact ht, Rat.le_refl, by decide⟩
/-- The first term but for the roots. -/
def fsG (a b : Nat) : Rat := (pwR (1 / 2) (a / 2) * pwR (1 / 2) (b / 2)) * (((beta2 a b).den * 2 : Nat) : Rat) / (((beta2 a b).num.natAbs * a : Nat) : Rat) * (if a % 2 * (b % 2) = 1 then 1 / PI0 else 1)
theorem fstR_is (a b : Nat) (s s' : Rat) : fstR a b (1 / 2) s s' = fsG a b * (rtF a s * rtF b s') := by
  have e : (1 : Rat) - 1 / 2 = 1 / 2 := by decide +kernel
  unfold fstR fsG rtF
  rw [e, Rat.div_def, Rat.div_def]
  generalize (if a % 2 = 1 then s else 1) = u
  generalize (if b % 2 = 1 then s' else 1) = v
  generalize (if a % 2 * (b % 2) = 1 then 1 / PI0 else 1) = z
  generalize pwR (1 / 2) (a / 2) = f
  generalize pwR (1 / 2) (b / 2) = g
  grind
theorem inv_nn {x : Rat} (h : 0 < x) : 0 ≤ x⁻¹ := by have := Rat.inv_pos.2 h; grind
theorem PI0_pos : 0 < PI0 := by
  have P := p2_pos 700
  have h := PI0_mul
  have w : (0 : Rat) < (piW : Rat) := by exact_mod_cast (show 0 < piW by decide +kernel)
  rcases Rat.le_total (a := PI0) (b := 0) with g | g
  · have := Rat.mul_le_mul_of_nonneg_right g (show 0 ≤ p2 700 by grind)
    grind
  · by_cases h0 : PI0 = 0
    · rw [h0, Rat.zero_mul] at h; grind
    · grind
theorem fsG_nn {a b : Nat} (ha : 1 ≤ a) (hb : 1 ≤ b) (ha2 : a ≤ 20) (hb2 : b ≤ 20) : 0 ≤ fsG a b := by
  have h := (bet_ok ha hb ha2 hb2).2
  have N : (0 : Rat) < (((beta2 a b).num.natAbs * a : Nat) : Rat) := by exact_mod_cast h
  unfold fsG
  rw [Rat.div_def]
  refine Rat.mul_nonneg (Rat.mul_nonneg (Rat.mul_nonneg (Rat.mul_nonneg (pwR_nn (by decide +kernel) _) (pwR_nn (by decide +kernel) _)) (nat_nonneg _)) (inv_nn N)) ?_
  split
  · have := PI0_pos
    rw [Rat.div_def, Rat.one_mul]
    exact inv_nn this
  · decide
/-- A power of a half. -/
theorem pw_half : ∀ n, pwR (1 / 2) n * ((2 ^ n : Nat) : Rat) = 1
  | 0 => by show (1 : Rat) * ((1 : Nat) : Rat) = 1; decide +kernel
  | n + 1 => by
    have ih := pw_half n
    have c : ((2 ^ (n + 1) : Nat) : Rat) = ((2 ^ n : Nat) : Rat) * 2 := by rw [Nat.pow_succ, cmN]; rfl
    show pwR (1 / 2) n * (1 / 2) * _ = 1
    rw [c]
    have hh : (1 / 2 : Rat) * 2 = 1 := by decide +kernel
    have e : pwR (1 / 2) n * (1 / 2) * (((2 ^ n : Nat) : Rat) * 2) = pwR (1 / 2) n * ((2 ^ n : Nat) : Rat) * (1 / 2 * 2) := by
      generalize (1 / 2 : Rat) = hf
      grind
    rw [e, ih, hh]; decide +kernel
theorem rtF_S2 (a : Nat) : rtF a S2 * ((2 ^ (700 * (a % 2)) : Nat) : Rat) = ((rtH ^ (a % 2) : Nat) : Rat) := by
  obtain ⟨F, hF⟩ : ∃ F : Nat, F = 700 := ⟨_, rfl⟩
  have m := S2_mul
  rw [← hF] at m ⊢
  unfold rtF
  have h : a % 2 = 0 ∨ a % 2 = 1 := by omega
  rcases h with h | h
  · rw [h, if_neg (by omega), Nat.mul_zero, Nat.pow_zero, Nat.pow_zero]; decide +kernel
  · rw [h, if_pos rfl, Nat.mul_one, Nat.pow_one]
    exact m
/-- The share at a half: at least so, at most so. -/
theorem hf_pt {a b l h e : Nat} (ha : 1 ≤ a) (hb : 1 ≤ b) (ha2 : a ≤ 20) (hb2 : b ≤ 20) (hN : hfN a b = (l, h, e)) :
    fsG a b * (rtF a S2 * rtF b S2) * sR (1 / 2) a b 120 * (e : Rat) = (l : Rat) ∧ fsG a b * (rtF a S2 * rtF b S2) * (sR (1 / 2) a b 120 + 3 * rR (1 / 2) a b 120) * (e : Rat) = (h : Rat) ∧ (0 : Rat) < (e : Rat) := by
  have hk := (bet_ok ha hb ha2 hb2).2
  have g := hfGo_is a b 120 0 1 1 1 (by show (1 : Rat) * ((1 : Nat) : Rat) = _; decide +kernel) (by show (1 : Rat) * ((1 : Nat) : Rat) = _; decide +kernel) (by omega)
  unfold hfN at hN
  simp only [pin_eq] at hN
  rw [Nat.zero_add] at g
  generalize hfGo a b 120 0 1 1 1 = G at *
  obtain ⟨n, d, s⟩ := G
  simp only [Prod.mk.injEq] at hN
  simp only at g
  obtain ⟨g1, g2, g3⟩ := g
  obtain ⟨rfl, rfl, rfl⟩ := hN
  obtain ⟨D2, hD2⟩ : ∃ D, D = (beta2 a b).den * 2 := ⟨_, rfl⟩
  obtain ⟨N2, hN2⟩ : ∃ N, N = (beta2 a b).num.natAbs * a := ⟨_, rfl⟩
  have p1 := pw_half (a / 2)
  have p3 := pw_half (b / 2)
  have r1 := rtF_S2 a
  have r2 := rtF_S2 b
  unfold fsG
  rw [← hD2, ← hN2]
  rw [← hN2] at hk
  have N : (0 : Rat) < (N2 : Rat) := by exact_mod_cast hk
  have dv : ∀ y : Rat, y / (N2 : Rat) * (N2 : Rat) = y := fun y => Rat.div_mul_cancel (by grind)
  have pq : (if a % 2 * (b % 2) = 1 then 1 / PI0 else 1) * (((if a % 2 * (b % 2) = 1 then piW else 1 : Nat)) : Rat) = ((if a % 2 * (b % 2) = 1 then 2 ^ 700 else 1 : Nat) : Rat) := by
    split
    · have P := PI0_pos
      rw [← PI0_mul, Rat.div_def, Rat.one_mul, ← Rat.mul_assoc, Rat.inv_mul_cancel _ (by grind), Rat.one_mul]
    · decide +kernel
  have n0 : 0 < (if a % 2 * (b % 2) = 1 then piW else 1) := by split <;> decide +kernel
  have cS : ((2 ^ (700 * (a % 2 + b % 2)) : Nat) : Rat) = ((2 ^ (700 * (a % 2)) : Nat) : Rat) * ((2 ^ (700 * (b % 2)) : Nat) : Rat) := by
    rw [← cmN, ← Nat.pow_add, ← Nat.mul_add]
  have cH : ((2 ^ (a / 2 + b / 2) : Nat) : Rat) = ((2 ^ (a / 2) : Nat) : Rat) * ((2 ^ (b / 2) : Nat) : Rat) := by rw [← cmN, ← Nat.pow_add]
  have cR : ((rtH ^ (a % 2 + b % 2) : Nat) : Rat) = ((rtH ^ (a % 2) : Nat) : Rat) * ((rtH ^ (b % 2) : Nat) : Rat) := by rw [← cmN, ← Nat.pow_add]
  have c3 : ((s + 3 * n : Nat) : Rat) = (s : Rat) + 3 * (n : Rat) := by exact_mod_cast rfl
  obtain ⟨q1, hq1⟩ : ∃ z : Rat, z = (if a % 2 * (b % 2) = 1 then 1 / PI0 else 1) := ⟨_, rfl⟩
  obtain ⟨q2, hq2⟩ : ∃ z : Nat, z = (if a % 2 * (b % 2) = 1 then piW else 1) := ⟨_, rfl⟩
  obtain ⟨q3, hq3⟩ : ∃ z : Nat, z = (if a % 2 * (b % 2) = 1 then 2 ^ 700 else 1) := ⟨_, rfl⟩
  rw [← hq1, ← hq2, ← hq3] at pq
  rw [← hq2] at n0
  rw [← hq1, ← hq2, ← hq3]
  clear hq1 hq2 hq3
  obtain ⟨z1, hz1⟩ : ∃ z : Nat, z = 2 ^ (700 * (a % 2)) := ⟨_, rfl⟩
  obtain ⟨z2, hz2⟩ : ∃ z : Nat, z = 2 ^ (700 * (b % 2)) := ⟨_, rfl⟩
  obtain ⟨z5, hz5⟩ : ∃ z : Nat, z = 2 ^ (700 * (a % 2 + b % 2)) := ⟨_, rfl⟩
  have n5 : 0 < z5 := by rw [hz5]; exact Nat.pow_pos (by omega)
  have n6 : 0 < 2 ^ (a / 2 + b / 2) := Nat.pow_pos (by omega)
  rw [← hz1] at r1
  rw [← hz2] at r2
  rw [← hz1, ← hz2, ← hz5] at cS
  rw [← hz5]
  clear hz1 hz2 hz5
  generalize pwR (1 / 2) (a / 2) = w1 at *
  generalize pwR (1 / 2) (b / 2) = w2 at *
  generalize rtF a S2 = f1 at *
  generalize rtF b S2 = f2 at *
  generalize sR (1 / 2) a b 120 = sr at *
  generalize rR (1 / 2) a b 120 = rr at *
  generalize rtH ^ (a % 2 + b % 2) = h5 at *
  generalize rtH ^ (a % 2) = h3 at *
  generalize rtH ^ (b % 2) = h4 at *
  generalize 2 ^ (a / 2 + b / 2) = z6 at *
  generalize 2 ^ (a / 2) = z3 at *
  generalize 2 ^ (b / 2) = z4 at *
  have d2 := dv (w1 * w2 * (D2 : Rat))
  generalize w1 * w2 * (D2 : Rat) / (N2 : Rat) = y at *
  have key : y * q1 * (f1 * f2) * ((z6 * z5 * N2 * q2 : Nat) : Rat) = ((h5 * D2 * q3 : Nat) : Rat) := by
    rw [cmN, cmN, cmN z6, cS, cH, cmN, cmN h5, cR, ← pq, ← r1, ← r2]
    have e1 : y * q1 * (f1 * f2) * ((z3 : Rat) * (z4 : Rat) * ((z1 : Rat) * (z2 : Rat)) * (N2 : Rat) * (q2 : Rat)) = (y * (N2 : Rat)) * ((z3 : Rat) * (z4 : Rat)) * (q1 * (q2 : Rat)) * (f1 * (z1 : Rat) * (f2 * (z2 : Rat))) := by grind
    have e2 : (w1 * w2 * (D2 : Rat)) * ((z3 : Rat) * (z4 : Rat)) * (q1 * (q2 : Rat)) * (f1 * (z1 : Rat) * (f2 * (z2 : Rat))) = (w1 * (z3 : Rat)) * (w2 * (z4 : Rat)) * (f1 * (z1 : Rat) * (f2 * (z2 : Rat)) * (D2 : Rat) * (q1 * (q2 : Rat))) := by grind
    rw [e1, d2, e2, p1, p3, Rat.one_mul, Rat.one_mul]
  have vp : 0 < z6 * z5 * N2 * q2 := Nat.mul_pos (Nat.mul_pos (Nat.mul_pos n6 n5) hk) n0
  generalize z6 * z5 * N2 * q2 = v at *
  generalize h5 * D2 * q3 = u at *
  clear d2 dv cS cH cR pq r1 r2 p1 p3 N n0 n5 n6 hk hN2 hD2
  generalize y * q1 * (f1 * f2) = C at *
  refine ⟨?_, ?_, ?_⟩
  · rw [cmN, cmN, ← key, ← g2]
    grind
  · rw [cmN, cmN, c3, ← key, ← g2, ← g1]
    grind
  · exact_mod_cast Nat.mul_pos vp g3
/-- Both shares at a half, at least and at most. -/
def hfLo (a b : Nat) : Rat := fsG a b * (rtF a S2 * rtF b S2) * sR (1 / 2) a b 120
def hfHi (a b : Nat) : Rat := fsG a b * (rtF a S2 * rtF b S2) * (sR (1 / 2) a b 120 + 3 * rR (1 / 2) a b 120)
theorem hf_sum1 {a b : Nat} (ha : 1 ≤ a) (hb : 1 ≤ b) (ha2 : a ≤ 20) (hb2 : b ≤ 20) (h : hfOk a b = true) :
    73786976294838206463 ≤ 73786976294838206464 * (hfLo a b + hfLo b a) ∧ 73786976294838206464 * (hfHi a b + hfHi b a) ≤ 73786976294838206465 := by
  unfold hfLo hfHi
  have p1 := hf_pt (l := (hfN a b).1) (h := (hfN a b).2.1) (e := (hfN a b).2.2) ha hb ha2 hb2 rfl
  have p2 := hf_pt (l := (hfN b a).1) (h := (hfN b a).2.1) (e := (hfN b a).2.2) hb ha hb2 ha2 rfl
  unfold hfOk at h
  generalize hfN a b = X1 at *
  generalize hfN b a = X2 at *
  obtain ⟨l1, h1, e1⟩ := X1
  obtain ⟨l2, h2, e2⟩ := X2
  simp only [pin_eq, Bool.and_eq_true] at h
  obtain ⟨k1, k2⟩ := h
  have m1 := nat_le_rat (Nat.le_of_ble_eq_true k1)
  have m2 := nat_le_rat (Nat.le_of_ble_eq_true k2)
  obtain ⟨a1, a2, a3⟩ := p1
  obtain ⟨b1, b2, b3⟩ := p2
  simp only at a1 a2 a3 b1 b2 b3
  have E := Rat.mul_pos a3 b3
  rw [cmN, cmN, cmN, cnN, cmN l1, cmN l2, ← a1, ← b1] at m1
  rw [cmN, cmN, cmN, cnN, cmN h1, cmN h2, ← a2, ← b2] at m2
  rw [show ((2 ^ 66 - 1 : Nat) : Rat) = 73786976294838206463 from rfl, show ((2 ^ 66 : Nat) : Rat) = 73786976294838206464 from rfl] at m1
  rw [show ((2 ^ 66 + 1 : Nat) : Rat) = 73786976294838206465 from rfl, show ((2 ^ 66 : Nat) : Rat) = 73786976294838206464 from rfl] at m2
  clear a1 a2 b1 b2 k1 k2
  generalize fsG a b * (rtF a S2 * rtF b S2) * sR (1 / 2) a b 120 = u1 at *
  generalize fsG b a * (rtF b S2 * rtF a S2) * sR (1 / 2) b a 120 = u2 at *
  generalize fsG a b * (rtF a S2 * rtF b S2) * (sR (1 / 2) a b 120 + 3 * rR (1 / 2) a b 120) = u3 at *
  generalize fsG b a * (rtF b S2 * rtF a S2) * (sR (1 / 2) b a 120 + 3 * rR (1 / 2) b a 120) = u4 at *
  generalize (e1 : Rat) = x1 at *
  generalize (e2 : Rat) = x2 at *
  refine ⟨le_by E ?_, le_by E ?_⟩
  · have : 73786976294838206464 * (u1 + u2) * (x1 * x2) = 73786976294838206464 * (u1 * x1 * x2 + u2 * x2 * x1) := by grind
    rw [this]; exact m1
  · have : 73786976294838206464 * (u3 + u4) * (x1 * x2) = 73786976294838206464 * (u3 * x1 * x2 + u4 * x2 * x1) := by grind
    rw [this]; exact m2
theorem hf_sum {a b : Nat} (ha : 1 ≤ a) (hb : 1 ≤ b) (ha2 : a ≤ 20) (hb2 : b ≤ 20) :
    73786976294838206463 ≤ 73786976294838206464 * (hfLo a b + hfLo b a) ∧ 73786976294838206464 * (hfHi a b + hfHi b a) ≤ 73786976294838206465 := by
  rcases Nat.le_total a b with h | h
  · exact hf_sum1 ha hb ha2 hb2 (hf_all ha h hb2)
  · have := hf_sum1 hb ha hb2 ha2 (hf_all hb h ha2)
    rw [Rat.add_comm (hfLo a b), Rat.add_comm (hfHi a b)]
    exact this
/-- 1 but for a little. -/
def tau : Rat := 1 - 1 / 1267650600228229401496703205376
theorem tau_abs {s S u d D hf : Rat} (h1 : s ≤ S) (h2 : (S - s) * u ≤ 1) (hs : hf ≤ S) (hh : hf * 2 = 1) (hD : 0 < D) (e : d * D = 1) (hp : 2 * D ≤ u) : (1 - d) * S ≤ s := by
  have h3 := Rat.mul_le_mul_of_nonneg_left hp (show 0 ≤ S - s by grind)
  refine le_by hD ?_
  have : (1 - d) * S * D = D * S - S * (d * D) := by grind
  rw [this, e]
  have e2 : (S - s) * (2 * D) = 2 * (D * S) - 2 * (s * D) := by grind
  rw [e2] at h3
  grind
theorem tau_pt {s : Rat} (h1 : s ≤ S2) (h2 : (S2 - s) * p2 690 ≤ 1) : tau * S2 ≤ s := by
  have hs : (1 / 2 : Rat) ≤ S2 := sq_mon (by decide +kernel) S2_nn (Rat.le_trans (by decide +kernel) S2_sq.1)
  have hp : (2 * 1267650600228229401496703205376 : Rat) ≤ p2 690 := by
    obtain ⟨E, hE⟩ : ∃ E : Nat, E = 690 := ⟨_, rfl⟩
    rw [← hE]
    have : 2 ^ 101 ≤ 2 ^ E := Nat.pow_le_pow_right (by omega) (by omega)
    exact Rat.le_trans (show _ ≤ ((2 ^ 101 : Nat) : Rat) by decide +kernel) (nat_le_rat this)
  exact tau_abs h1 h2 hs (by decide +kernel) (by decide +kernel) (by decide +kernel) hp
theorem tau_ok : 0 ≤ tau ∧ tau ≤ 1 ∧ 73786976294838206462 ≤ tau * tau * 73786976294838206463 := by decide +kernel
theorem sR_nnH {x : Rat} {a b : Nat} (h : 0 ≤ x) (k : Nat) : 0 ≤ sR x a b k := Rat.le_trans (show (0 : Rat) ≤ 1 by decide) (sR_up (a := a) (b := b) h (Nat.zero_le k))
theorem half_row {a b p : Nat} (ha : 1 ≤ a) (ha2 : a ≤ 20) (hb : 1 ≤ b) (hb2 : b ≤ 20) (hp : p ≤ 60) :
    ∃ A B : Nat, Go.Ev.Fn CX 81 [.int .i64 (a : Int), .int .i64 (b : Int), rv (1 / 2), .int .i64 ((p + 300 : Nat) : Int)] (spanV A B) ∧ A ≤ B ∧ (lim A).length ≤ 100 ∧ (lim B).length ≤ 100 ∧
      (A : Rat) ≤ hfHi a b * p2 (p + 300) ∧ tau * tau * hfLo a b * p2 (p + 300) ≤ (B : Rat) := by
  have hz : szR (1 / 2) 1 := ⟨lim_len_lt (by decide +kernel), lim_len_lt (by decide +kernel)⟩
  have h0 : (0 : Rat) ≤ 1 / 2 := by decide +kernel
  have h1 : (1 / 2 : Rat) + 1 / 2 ≤ 1 := by decide +kernel
  obtain ⟨F1, F2, p1, p2', q1, q2, fi, g1, g2, g3, r1, r2, r3, r4, r5, r6, r7, r8, hF⟩ := incb_fst (w := p + 300) ha ha2 hb hb2 hz (by omega) (by omega) h0 (by decide +kernel) (by omega) (by omega)
  obtain ⟨A, B, K, hg⟩ := rowh_ends ha hb2 h0 h1 (by omega) (by omega) g1 g2 g3
  obtain ⟨k1, k2, k3⟩ := rowh_bd ha hb2 h0 h1 (by omega) g1 g2 g3 hg
  have f := incb_rowh ha ha2 hb hb2 hz (by omega) h0 h1 (by omega) (by omega) fi g1 g2 g3 hg
  have lB := lim_len_p2 k3 (by omega)
  have e2 : (1 : Rat) - 1 / 2 = 1 / 2 := by decide +kernel
  rw [e2] at r7 r8
  obtain ⟨s, s1, s2, s3, s4⟩ := half_pt r2 r1 r3 r4
  obtain ⟨s', s1', s2', s3', s4'⟩ := half_pt r6 r5 r7 r8
  have en := hF s s' s1 s2 s1' s2'
  have en1 : Enc (p + 300) F1 F2 (fstR a b (1 / 2) s s' * rR (1 / 2) a b 0) := by
    show Enc _ _ _ (_ * 1)
    rw [Rat.mul_one]; exact en
  have en2 : Enc (p + 300) F1 F2 (fstR a b (1 / 2) s s' * sR (1 / 2) a b 0) := en1
  obtain ⟨hbK, e3, e4, e5⟩ := row_enc (un_enc h0 (p + 300)) 2201 0 _ _ _ _ hg en1 en2
  have t1 := sR_top (a := a) (b := b) h0 h1 (k := 120) (m := K) (by omega)
  have t2 := sR_top (a := a) (b := b) h0 h1 (k := K) (m := 120) hbK
  obtain ⟨u1, u2, u3⟩ := tau_ok
  obtain ⟨a1, a2, a3⟩ := rtF_mon (t := tau) a S2_nn s3 (tau_pt s3 s4) u2
  obtain ⟨b1, b2, b3⟩ := rtF_mon (t := tau) b S2_nn s3' (tau_pt s3' s4') u2
  have G := fsG_nn ha hb ha2 hb2
  refine ⟨A, B, f, k1, Nat.le_trans (lim_len_mono k1) (by omega), by omega, ?_, ?_⟩
  all_goals
    (try unfold hfHi)
    (try unfold hfLo)
    rw [fstR_is] at e3 e4 e5
    have P := p2_pos (p + 300)
    have c0 : 0 ≤ rtF a s := Rat.le_trans (Rat.mul_nonneg u1 a3) a1
    have c1 : 0 ≤ rtF b s' := Rat.le_trans (Rat.mul_nonneg u1 b3) b1
    have w0 := sR_nnH (a := a) (b := b) h0 K
    have w2 := rR_nn (a := a) (b := b) h0 120
    have w3 := sR_nnH (a := a) (b := b) h0 120
    have w4 := rR_nn (a := a) (b := b) h0 K
    generalize (1 / 2 : Rat) = hf at *
    generalize sR hf a b 120 = v1 at *
    generalize rR hf a b 120 = v2 at *
    generalize sR hf a b K = v3 at *
    generalize rR hf a b K = v4 at *
    generalize rtF a s = x1 at *
    generalize rtF b s' = x2 at *
    generalize rtF a S2 = y1 at *
    generalize rtF b S2 = y2 at *
    generalize fsG a b = c at *
    generalize p2 (p + 300) = W at *
    clear fi g1 g2 g3 hF hg f en en1 en2 k3 lB
  · have m1 : x1 * x2 ≤ y1 * y2 := Rat.le_trans (Rat.mul_le_mul_of_nonneg_right a2 c1) (Rat.mul_le_mul_of_nonneg_left b2 a3)
    have m2 := Rat.mul_le_mul_of_nonneg_left m1 G
    have m3 : c * (x1 * x2) * v3 ≤ c * (y1 * y2) * (v1 + 3 * v2) := Rat.le_trans (Rat.mul_le_mul_of_nonneg_right m2 w0) (Rat.mul_le_mul_of_nonneg_left t1 (Rat.mul_nonneg G (Rat.mul_nonneg a3 b3)))
    exact Rat.le_trans e3 (Rat.mul_le_mul_of_nonneg_right m3 (Rat.le_of_lt P))
  · have m1 : tau * y1 * (tau * y2) ≤ x1 * x2 := Rat.le_trans (Rat.mul_le_mul_of_nonneg_right a1 (Rat.mul_nonneg u1 b3)) (Rat.mul_le_mul_of_nonneg_left b1 c0)
    have m2 := Rat.mul_le_mul_of_nonneg_left m1 G
    have m3 : c * (tau * y1 * (tau * y2)) * v1 ≤ c * (x1 * x2) * (v3 + 3 * v4) := Rat.le_trans (Rat.mul_le_mul_of_nonneg_right m2 w3) (Rat.mul_le_mul_of_nonneg_left t2 (Rat.mul_nonneg G (Rat.mul_nonneg c0 c1)))
    have m4 := Rat.mul_le_mul_of_nonneg_right m3 (Rat.le_of_lt P)
    have e6 : tau * tau * (c * (y1 * y2) * v1) * W = c * (tau * y1 * (tau * y2)) * v1 * W := by grind
    rw [e6]
    refine Rat.le_trans m4 ?_
    have e7 : c * (x1 * x2) * (v3 + 3 * v4) * W = c * (x1 * x2) * v3 * W + 3 * (c * (x1 * x2) * v4 * W) := by grind
    rw [e7]
    grind
theorem told_abs {A1 A2 B1 B2 M E : Nat} (hE : 0 < E) (hM : M ≤ 2 ^ 62) (h1 : (A1 + A2) * 73786976294838206464 ≤ 73786976294838206465 * (M * E)) (h2 : 73786976294838206462 * (M * E) ≤ (B1 + B2) * 73786976294838206464) :
    A1 / E + A2 / E ≤ M ∧ M ≤ B1 / E + 1 + (B2 / E + 1) := by
  have d1 := Nat.div_mul_le_self A1 E
  have d2 := Nat.div_mul_le_self A2 E
  have d3 := Nat.lt_mul_div_succ B1 hE
  have d4 := Nat.lt_mul_div_succ B2 hE
  generalize A1 / E = x1 at *
  generalize A2 / E = x2 at *
  generalize B1 / E = y1 at *
  generalize B2 / E = y2 at *
  constructor
  · have k : (x1 + x2) * 73786976294838206464 * E ≤ 73786976294838206465 * M * E := by
      rw [Nat.mul_assoc 73786976294838206465]
      refine Nat.le_trans ?_ h1
      have : (x1 + x2) * 73786976294838206464 * E = (x1 * E + x2 * E) * 73786976294838206464 := by rw [← Nat.add_mul, Nat.mul_assoc, Nat.mul_comm _ E, ← Nat.mul_assoc]
      rw [this]
      exact Nat.mul_le_mul_right _ (Nat.add_le_add d1 d2)
    have := Nat.le_of_mul_le_mul_right k hE
    omega
  · have k : 73786976294838206462 * M * E ≤ (y1 + 1 + (y2 + 1)) * 73786976294838206464 * E := by
      rw [Nat.mul_assoc 73786976294838206462]
      refine Nat.le_trans h2 ?_
      have : (y1 + 1 + (y2 + 1)) * 73786976294838206464 * E = (E * (y1 + 1) + E * (y2 + 1)) * 73786976294838206464 := by rw [← Nat.mul_add, Nat.mul_assoc, Nat.mul_comm _ E, Nat.mul_comm E, ← Nat.mul_assoc, Nat.mul_comm E, Nat.mul_assoc, Nat.mul_assoc]; congr 1; rw [Nat.mul_comm]
      rw [this]
      exact Nat.mul_le_mul_right _ (Nat.add_le_add (Nat.le_of_lt d3) (Nat.le_of_lt d4))
    have := Nat.le_of_mul_le_mul_right k hE
    omega
/-- Balls that are told as sums within a little of 1 hold 1 together. -/
theorem told_sum {A1 A2 B1 B2 p : Nat} (hp : p ≤ 60) (h1 : (A1 + A2) * 73786976294838206464 ≤ 73786976294838206465 * 2 ^ (p + 300)) (h2 : 73786976294838206462 * 2 ^ (p + 300) ≤ (B1 + B2) * 73786976294838206464) :
    toldLo A1 p + toldLo A2 p ≤ 1 ∧ 1 ≤ toldHi B1 p + toldHi B2 p := by
  unfold toldLo toldHi
  have P := p2_pos (p + 2)
  obtain ⟨F, hF⟩ : ∃ F : Nat, F = p + 300 - (p + 2) := ⟨_, rfl⟩
  rw [← hF]
  have hw : 2 ^ (p + 300) = 2 ^ (p + 2) * 2 ^ F := by rw [← Nat.pow_add]; congr 1; omega
  rw [hw] at h1 h2
  obtain ⟨k1, k2⟩ := told_abs (Nat.pow_pos (by omega)) (Nat.pow_le_pow_right (by omega) (by omega)) h1 h2
  have m1 := mk_p2n (A1 / 2 ^ F) (p + 2)
  have m2 := mk_p2n (A2 / 2 ^ F) (p + 2)
  have m3 := mk_p2n (B1 / 2 ^ F + 1) (p + 2)
  have m4 := mk_p2n (B2 / 2 ^ F + 1) (p + 2)
  have n1 := nat_le_rat k1
  have n2 := nat_le_rat k2
  rw [cnN, ← m1, ← m2] at n1
  rw [cnN (B1 / 2 ^ F + 1), ← m3, ← m4] at n2
  change _ ≤ p2 (p + 2) at n1
  change p2 (p + 2) ≤ _ at n2
  refine ⟨le_by P ?_, le_by P ?_⟩
  · rw [Rat.one_mul, Rat.add_mul]; exact n1
  · rw [Rat.one_mul, Rat.add_mul]; exact n2
section
variable {x : Rat} {a b p : Nat} {s : Bool} {n d : List Nat}
/-- At a half both balls, of a and b and of b and a, hold 1 together. -/
theorem half_pair (ha : 1 ≤ a) (ha2 : a ≤ 20) (hb : 1 ≤ b) (hb2 : b ≤ 20) (hp : p ≤ 60) :
    ∃ A1 B1 A2 B2 : Nat, Go.Ev.Fn CX 81 [.int .i64 (a : Int), .int .i64 (b : Int), rv (1 / 2), .int .i64 ((p + 300 : Nat) : Int)] (spanV A1 B1) ∧ Go.Ev.Fn CX 81 [.int .i64 (b : Int), .int .i64 (a : Int), rv (1 / 2), .int .i64 ((p + 300 : Nat) : Int)] (spanV A2 B2) ∧
      A1 ≤ B1 ∧ (lim A1).length ≤ 100 ∧ (lim B1).length ≤ 100 ∧ (lim A2).length ≤ 100 ∧ (lim B2).length ≤ 100 ∧ toldLo A1 p + toldLo A2 p ≤ 1 ∧ 1 ≤ toldHi B1 p + toldHi B2 p := by
  obtain ⟨A1, B1, f1, l0, l1, l2, a1, b1⟩ := half_row (p := p) ha ha2 hb hb2 hp
  obtain ⟨A2, B2, f2, -, l3, l4, a2, b2⟩ := half_row (p := p) hb hb2 ha ha2 hp
  obtain ⟨s1, s2⟩ := hf_sum ha hb ha2 hb2
  obtain ⟨u1, u2, u3⟩ := tau_ok
  have W := p2_pos (p + 300)
  have t := told_sum (A1 := A1) (A2 := A2) (B1 := B1) (B2 := B2) hp (by
    have k : (((A1 + A2) * 73786976294838206464 : Nat) : Rat) ≤ ((73786976294838206465 * 2 ^ (p + 300) : Nat) : Rat) := by
      rw [cmN, cmN, cnN]
      show ((A1 : Rat) + (A2 : Rat)) * 73786976294838206464 ≤ 73786976294838206465 * p2 (p + 300)
      have m := Rat.mul_le_mul_of_nonneg_right s2 (show 0 ≤ p2 (p + 300) by grind)
      clear f1 f2
      generalize p2 (p + 300) = w at *
      generalize hfHi a b = q1 at *
      generalize hfHi b a = q2 at *
      grind
    exact_mod_cast k) (by
    have k : ((73786976294838206462 * 2 ^ (p + 300) : Nat) : Rat) ≤ (((B1 + B2) * 73786976294838206464 : Nat) : Rat) := by
      rw [cmN, cmN, cnN]
      show 73786976294838206462 * p2 (p + 300) ≤ ((B1 : Rat) + (B2 : Rat)) * 73786976294838206464
      have m1 := Rat.mul_le_mul_of_nonneg_left s1 (Rat.mul_nonneg u1 u1)
      have m2 := Rat.mul_le_mul_of_nonneg_right (Rat.le_trans u3 m1) (show 0 ≤ p2 (p + 300) by grind)
      clear f1 f2
      generalize p2 (p + 300) = w at *
      generalize hfLo a b = q1 at *
      generalize hfLo b a = q2 at *
      generalize tau = t at *
      have e3 : t * t * (73786976294838206464 * (q1 + q2)) * w = (t * t * q1 * w + t * t * q2 * w) * 73786976294838206464 := by grind
      rw [e3] at m2
      grind
    exact_mod_cast k)
  exact ⟨A1, B1, A2, B2, f1, f2, l0, l1, l2, l3, l4, t.1, t.2⟩
theorem hfq_len : szR (1 / 2) 1 := ⟨lim_len_lt (by decide +kernel), lim_len_lt (by decide +kernel)⟩
end
theorem wf_int64k {n : Int} (h : (Lit.int .i64 n).wf = true) : -9223372036854775808 ≤ n ∧ n < 9223372036854775808 := by
  have h' : decide (IntKind.i64.min ≤ n ∧ n ≤ IntKind.i64.max) = true := by simpa [Lit.wf] using h
  have := of_decide_eq_true h'
  simp only [show IntKind.i64.min = -9223372036854775808 from rfl, show IntKind.i64.max = 9223372036854775807 from rfl] at this
  omega
end Go.Proofs.YtodiciendlhkgaaGreat

/- IncbRises, plain mathematics: a row's squares; ends of shares of lesser numbers are not above those of greater ones. -/
namespace Go.Proofs.YtodiciendlhkgaaGreat
open Go.Ev
set_option linter.unusedVariables false
/-- A share's factor. -/
def fsC (a b : Nat) : Rat := (((beta2 a b).den * 2 : Nat) : Rat) * (((beta2 a b).num.natAbs * a : Nat) : Rat)⁻¹ * (if a % 2 * (b % 2) = 1 then 1 / PI0 else 1)
theorem pwR_add (q : Rat) (m n : Nat) : pwR q (m + n) = pwR q m * pwR q n := by
  induction n with
  | zero => show pwR q m = pwR q m * 1; rw [Rat.mul_one]
  | succ n ih => show pwR q (m + n) * q = pwR q m * (pwR q n * q); rw [ih, Rat.mul_assoc]
theorem pwR_half (q : Rat) (a : Nat) : pwR q a = pwR q (a / 2) * pwR q (a / 2) * rtF a q := by
  unfold rtF
  have h : a % 2 = 0 ∨ a % 2 = 1 := by omega
  rcases h with h | h
  · rw [if_neg (by omega), Rat.mul_one, ← pwR_add, show a / 2 + a / 2 = a by omega]
  · rw [if_pos h, ← pwR_add]
    have : a = a / 2 + a / 2 + 1 := by omega
    conv => lhs; rw [this]
    rfl
theorem rtF_sq_lo {q s : Rat} (a : Nat) (h : s * s ≤ q) : rtF a s * rtF a s ≤ rtF a q := by
  unfold rtF
  split
  · exact h
  · rw [Rat.mul_one]; exact Rat.le_refl
theorem rtF_sq_hi {q s : Rat} (a : Nat) (h : q ≤ s * s) : rtF a q ≤ rtF a s * rtF a s := by
  unfold rtF
  split
  · exact h
  · rw [Rat.mul_one]; exact Rat.le_refl
theorem rtF_nn {s : Rat} (a : Nat) (h : 0 ≤ s) : 0 ≤ rtF a s := by
  unfold rtF
  split
  · exact h
  · decide
theorem fstR_sq (a b : Nat) (x sx sy : Rat) : fstR a b x sx sy = fsC a b * (pwR x (a / 2) * rtF a sx * (pwR (1 - x) (b / 2) * rtF b sy)) := by
  unfold fstR fsC rtF
  rw [Rat.div_def]
  generalize (if a % 2 = 1 then sx else 1) = u
  generalize (if b % 2 = 1 then sy else 1) = v
  generalize (if a % 2 * (b % 2) = 1 then 1 / PI0 else 1) = z
  grind
theorem fsC_nn {a b : Nat} (ha : 1 ≤ a) (hb : 1 ≤ b) (ha2 : a ≤ 20) (hb2 : b ≤ 20) : 0 ≤ fsC a b := by
  have h := (bet_ok ha hb ha2 hb2).2
  have N : (0 : Rat) < (((beta2 a b).num.natAbs * a : Nat) : Rat) := by exact_mod_cast h
  unfold fsC
  refine Rat.mul_nonneg (Rat.mul_nonneg (nat_nonneg _) (inv_nn N)) ?_
  split
  · have := PI0_pos
    rw [Rat.div_def, Rat.one_mul]
    exact inv_nn this
  · decide
theorem mul_self_nn (x : Rat) : 0 ≤ x * x := by
  rcases Rat.le_total (a := 0) (b := x) with h | h
  · exact Rat.mul_nonneg h h
  · have := Rat.mul_nonneg (show 0 ≤ -x by grind) (show 0 ≤ -x by grind)
    grind
/-- Products of what is not below 0. -/
theorem mul_both {a b c d : Rat} (h1 : a ≤ b) (h2 : c ≤ d) (hb : 0 ≤ b) (hc : 0 ≤ c) : a * c ≤ b * d :=
  Rat.le_trans (Rat.mul_le_mul_of_nonneg_right h1 hc) (Rat.mul_le_mul_of_nonneg_left h2 hb)
section
variable {x sx sy : Rat} {a b k : Nat}
theorem sh_lo (hx : 0 ≤ x) (hx1 : x ≤ 1) (h1 : sx * sx ≤ x) (h2 : sy * sy ≤ 1 - x) : fstR a b x sx sy * sR x a b k * (fstR a b x sx sy * sR x a b k) ≤ fsC a b * fsC a b * shG a b k x := by
  have e1 := rtF_sq_lo a h1
  have e2 := rtF_sq_lo b h2
  unfold shG
  rw [fstR_sq, pwR_half x a, pwR_half (1 - x) b]
  have n1 : 0 ≤ pwR x (a / 2) * pwR x (a / 2) := Rat.mul_nonneg (pwR_nn hx _) (pwR_nn hx _)
  have n2 : 0 ≤ pwR (1 - x) (b / 2) * pwR (1 - x) (b / 2) := Rat.mul_nonneg (pwR_nn (by grind) _) (pwR_nn (by grind) _)
  have n3 : 0 ≤ rtF a x := rtF_nn a hx
  have n4 : 0 ≤ rtF b sy * rtF b sy := mul_self_nn _
  have n5 : 0 ≤ fsC a b * fsC a b := mul_self_nn _
  have n6 : 0 ≤ sR x a b k * sR x a b k := mul_self_nn _
  have m := mul_both e1 e2 n3 n4
  have m2 := Rat.mul_le_mul_of_nonneg_left m (Rat.mul_nonneg (Rat.mul_nonneg n5 n6) (Rat.mul_nonneg n1 n2))
  generalize fsC a b = c at *
  generalize sR x a b k = s at *
  generalize pwR x (a / 2) = u at *
  generalize pwR (1 - x) (b / 2) = v at *
  generalize rtF a sx = r1 at *
  generalize rtF b sy = r2 at *
  generalize rtF a x = r3 at *
  generalize rtF b (1 - x) = r4 at *
  have q1 : c * (u * r1 * (v * r2)) * s * (c * (u * r1 * (v * r2)) * s) = c * c * (s * s) * (u * u * (v * v)) * (r1 * r1 * (r2 * r2)) := by grind
  have q2 : c * c * (u * u * r3 * (v * v * r4) * (s * s)) = c * c * (s * s) * (u * u * (v * v)) * (r3 * r4) := by grind
  rw [q1, q2]; exact m2
theorem sh_hi (hx : 0 ≤ x) (hx1 : x ≤ 1) (h1 : x ≤ sx * sx) (h2 : 1 - x ≤ sy * sy) : fsC a b * fsC a b * shG a b k x ≤ fstR a b x sx sy * sR x a b k * (fstR a b x sx sy * sR x a b k) := by
  have e1 := rtF_sq_hi a h1
  have e2 := rtF_sq_hi b h2
  unfold shG
  rw [fstR_sq, pwR_half x a, pwR_half (1 - x) b]
  have n1 : 0 ≤ pwR x (a / 2) * pwR x (a / 2) := Rat.mul_nonneg (pwR_nn hx _) (pwR_nn hx _)
  have n2 : 0 ≤ pwR (1 - x) (b / 2) * pwR (1 - x) (b / 2) := Rat.mul_nonneg (pwR_nn (by grind) _) (pwR_nn (by grind) _)
  have n3 : 0 ≤ rtF a sx * rtF a sx := mul_self_nn _
  have n4 : 0 ≤ rtF b (1 - x) := rtF_nn b (by grind)
  have n5 : 0 ≤ fsC a b * fsC a b := mul_self_nn _
  have n6 : 0 ≤ sR x a b k * sR x a b k := mul_self_nn _
  have m := mul_both e1 e2 n3 n4
  have m2 := Rat.mul_le_mul_of_nonneg_left m (Rat.mul_nonneg (Rat.mul_nonneg n5 n6) (Rat.mul_nonneg n1 n2))
  generalize fsC a b = c at *
  generalize sR x a b k = s at *
  generalize pwR x (a / 2) = u at *
  generalize pwR (1 - x) (b / 2) = v at *
  generalize rtF a sx = r1 at *
  generalize rtF b sy = r2 at *
  generalize rtF a x = r3 at *
  generalize rtF b (1 - x) = r4 at *
  have q1 : c * (u * r1 * (v * r2)) * s * (c * (u * r1 * (v * r2)) * s) = c * c * (s * s) * (u * u * (v * v)) * (r1 * r1 * (r2 * r2)) := by grind
  have q2 : c * c * (u * u * r3 * (v * v * r4) * (s * s)) = c * c * (s * s) * (u * u * (v * v)) * (r3 * r4) := by grind
  rw [q1, q2]; exact m2
end
/-- What a row's ends tell of the share's square. -/
def RowS (a b w : Nat) (x : Rat) (A B : Nat) : Prop := ∃ K : Nat, ∀ m, K ≤ m → (A : Rat) * (A : Rat) ≤ fsC a b * fsC a b * shG a b m x * (p2 w * p2 w) ∧ fsC a b * fsC a b * shG a b m x * (p2 w * p2 w) ≤ (B : Rat) * (B : Rat)
theorem rows_le {a b w : Nat} {x y : Rat} {A B A' B' : Nat} (ha : 1 ≤ a) (ha2 : a ≤ 20) (hb2 : b ≤ 20) (h0 : 0 < x) (hxy : x ≤ y) (hy : y + y ≤ 1) (h : RowS a b w x A B) (h' : RowS a b w y A' B') : A ≤ B' := by
  obtain ⟨K, h⟩ := h
  obtain ⟨K', h'⟩ := h'
  have g := (h (max (max K K') 160) (by omega)).1
  have g' := (h' (max (max K K') 160) (by omega)).2
  have m := shG_up (a := a) (b := b) (k := max (max K K') 160) ha ha2 hb2 (by omega) h0 hxy hy
  have P : 0 ≤ p2 w * p2 w := mul_self_nn _
  have C : 0 ≤ fsC a b * fsC a b := mul_self_nn _
  have m2 := Rat.mul_le_mul_of_nonneg_right (Rat.mul_le_mul_of_nonneg_left m C) P
  have r := sq_mon (nat_nonneg A) (nat_nonneg B') (Rat.le_trans g (Rat.le_trans m2 g'))
  exact_mod_cast r
/-- Up to a half it is at most the half's. -/
theorem row_half_le {a b w : Nat} {x : Rat} {A B : Nat} (ha : 1 ≤ a) (ha2 : a ≤ 20) (hb : 1 ≤ b) (hb2 : b ≤ 20) (h0 : 0 < x) (hx : x + x ≤ 1) (h : RowS a b w x A B) : (A : Rat) ≤ hfHi a b * p2 w := by
  obtain ⟨K, h⟩ := h
  have g := (h (max K 160) (by omega)).1
  have P : 0 ≤ p2 w := Rat.le_of_lt (p2_pos w)
  have hh : (1 / 2 : Rat) + 1 / 2 = 1 := by decide +kernel
  have h2 : (0 : Rat) ≤ 1 / 2 := by decide +kernel
  have m := shG_up (a := a) (b := b) (k := max K 160) (y := 1 / 2) ha ha2 hb2 (by omega) h0 (by generalize (1 / 2 : Rat) = hf at *; grind) (by rw [hh]; exact Rat.le_refl)
  have e1 : (1 : Rat) - 1 / 2 = 1 / 2 := by decide +kernel
  have t := sh_hi (a := a) (b := b) (k := max K 160) (x := 1 / 2) (sx := S2) (sy := S2) h2 (by decide +kernel) S2_sq.1 (by rw [e1]; exact S2_sq.1)
  rw [fstR_is] at t
  have G := fsG_nn ha hb ha2 hb2
  have F := Rat.mul_nonneg G (Rat.mul_nonneg (rtF_nn a S2_nn) (rtF_nn b S2_nn))
  have s := Rat.mul_le_mul_of_nonneg_left (sR_top (a := a) (b := b) (k := 120) (m := max K 160) h2 (by rw [hh]; exact Rat.le_refl) (by omega)) F
  have s0 := Rat.mul_nonneg F (sR_nnH (a := a) (b := b) h2 (max K 160))
  unfold hfHi
  have C : 0 ≤ fsC a b * fsC a b := mul_self_nn _
  have m2 := Rat.mul_le_mul_of_nonneg_right (Rat.le_trans (Rat.mul_le_mul_of_nonneg_left m C) t) (mul_self_nn (p2 w))
  refine sq_mon (nat_nonneg A) (Rat.mul_nonneg (Rat.le_trans s0 s) P) (Rat.le_trans g (Rat.le_trans m2 ?_))
  have s1 := Rat.mul_le_mul_of_nonneg_right s P
  have z := mul_both s1 s1 (Rat.mul_nonneg (Rat.le_trans s0 s) P) (Rat.mul_nonneg s0 P)
  generalize fsG a b * (rtF a S2 * rtF b S2) * sR (1 / 2) a b (max K 160) = u1 at *
  generalize fsG a b * (rtF a S2 * rtF b S2) * (sR (1 / 2) a b 120 + 3 * rR (1 / 2) a b 120) = u2 at *
  have e : u1 * u1 * (p2 w * p2 w) = u1 * p2 w * (u1 * p2 w) := by grind
  rw [e]; exact z
theorem sq_pair (u w : Rat) : u * w * (u * w) = u * u * (w * w) := by grind
section
variable {x : Rat} {a b p L : Nat}
/-- The program's row tells so. -/
theorem row_sq (hz : szR x L) (hL1 : 1 ≤ L) (hL : L ≤ 200) (ha : 1 ≤ a) (ha2 : a ≤ 20) (hb : 1 ≤ b) (hb2 : b ≤ 20) (hp : p ≤ 80) (h0 : 0 ≤ x) (h1 : x + x ≤ 1) :
    ∃ A B : Nat, Go.Ev.Fn CX 81 [.int .i64 (a : Int), .int .i64 (b : Int), rv x, .int .i64 ((p + 300 : Nat) : Int)] (spanV A B) ∧ (lim A).length ≤ 100 ∧ (lim B).length ≤ 100 ∧ RowS a b (p + 300) x A B := by
  have hx1 : x ≤ 1 := by grind
  obtain ⟨F1, F2, p1, p2', q1, q2, fi, g1, g2, g3, r1, r2, r3, r4, r5, r6, r7, r8, hF⟩ := incb_fst (w := p + 300) ha ha2 hb hb2 hz hL1 hL h0 hx1 (by omega) (by omega)
  obtain ⟨A, B, K, hg⟩ := rowh_ends ha hb2 h0 h1 (by omega) (by omega) g1 g2 g3
  obtain ⟨k1, k2, k3⟩ := rowh_bd ha hb2 h0 h1 (by omega) g1 g2 g3 hg
  have f := incb_rowh ha ha2 hb hb2 hz (by omega) h0 h1 (by omega) (by omega) fi g1 g2 g3 hg
  have lB := lim_len_p2 k3 (by omega)
  have P := p2_pos (p + 300)
  have tell : ∀ sx sy, p1 ≤ sx → sx ≤ p2' → q1 ≤ sy → sy ≤ q2 → b ≤ K ∧ (A : Rat) ≤ fstR a b x sx sy * sR x a b K * p2 (p + 300) ∧ fstR a b x sx sy * sR x a b K * p2 (p + 300) + 64 ≤ (B : Rat) ∧ fstR a b x sx sy * rR x a b K * p2 (p + 300) ≤ 8 := by
    intro sx sy x1 x2 y1 y2
    have en := hF sx sy x1 x2 y1 y2
    have en1 : Enc (p + 300) F1 F2 (fstR a b x sx sy * rR x a b 0) := by
      show Enc _ _ _ (_ * 1)
      rw [Rat.mul_one]; exact en
    have en2 : Enc (p + 300) F1 F2 (fstR a b x sx sy * sR x a b 0) := en1
    exact row_enc (un_enc h0 (p + 300)) 2201 0 _ _ _ _ hg en1 en2
  have nn : ∀ sx sy, p1 ≤ sx → sx ≤ p2' → q1 ≤ sy → sy ≤ q2 → 0 ≤ fstR a b x sx sy := fun sx sy x1 x2 y1 y2 => enc_nonneg (hF sx sy x1 x2 y1 y2)
  refine ⟨A, B, f, Nat.le_trans (lim_len_mono k1) (by omega), by omega, K, fun m hm => ?_⟩
  obtain ⟨hbK, a1, -, -⟩ := tell p1 q1 Rat.le_refl r1 Rat.le_refl r5
  obtain ⟨-, -, b1, b2⟩ := tell p2' q2 r1 Rat.le_refl r5 Rat.le_refl
  have c1 := nn p1 q1 Rat.le_refl r1 Rat.le_refl r5
  have c2 := nn p2' q2 r1 Rat.le_refl r5 Rat.le_refl
  have s0 := sR_nnH (a := a) (b := b) h0 m
  have s1 := sR_up (a := a) (b := b) h0 hm
  have s2 := sR_top (a := a) (b := b) h0 h1 (k := K) (m := m) hbK
  have lo := sh_lo (a := a) (b := b) (k := m) h0 hx1 r3 r7
  have hi := sh_hi (a := a) (b := b) (k := m) h0 hx1 r4 r8
  have P0 : 0 ≤ p2 (p + 300) := Rat.le_of_lt P
  have A1 : (A : Rat) ≤ fstR a b x p1 q1 * sR x a b m * p2 (p + 300) := Rat.le_trans a1 (Rat.mul_le_mul_of_nonneg_right (Rat.mul_le_mul_of_nonneg_left s1 c1) P0)
  have B1 : fstR a b x p2' q2 * sR x a b m * p2 (p + 300) ≤ (B : Rat) := by
    have t := Rat.mul_le_mul_of_nonneg_right (Rat.mul_le_mul_of_nonneg_left s2 c2) P0
    refine Rat.le_trans t ?_
    clear f fi hg hF tell nn lB lo hi A1 k3 g3
    generalize fstR a b x p2' q2 = u at *
    generalize sR x a b K = v at *
    generalize rR x a b K = v' at *
    generalize p2 (p + 300) = w at *
    have e : u * (v + 3 * v') * w = u * v * w + 3 * (u * v' * w) := by grind
    rw [e]; grind
  have n1 : 0 ≤ fstR a b x p1 q1 * sR x a b m * p2 (p + 300) := Rat.mul_nonneg (Rat.mul_nonneg c1 s0) P0
  have n2 : 0 ≤ fstR a b x p2' q2 * sR x a b m * p2 (p + 300) := Rat.mul_nonneg (Rat.mul_nonneg c2 s0) P0
  have A2 := mul_both A1 A1 n1 (nat_nonneg A)
  have B2 := mul_both B1 B1 (nat_nonneg B) n2
  have lo2 := Rat.mul_le_mul_of_nonneg_right lo (mul_self_nn (p2 (p + 300)))
  have hi2 := Rat.mul_le_mul_of_nonneg_right hi (mul_self_nn (p2 (p + 300)))
  rw [sq_pair] at A2 B2
  exact ⟨Rat.le_trans A2 lo2, Rat.le_trans hi2 B2⟩
end
end Go.Proofs.YtodiciendlhkgaaGreat

/- incb.I: of a greater number the share is not below; both turned round are all: balls that may be, in the evaluator. -/
namespace Go.Proofs.YtodiciendlhkgaaGreat
open Go.Ev
set_option linter.unusedVariables false
theorem hfHi_nn {a b : Nat} (ha : 1 ≤ a) (ha2 : a ≤ 20) (hb : 1 ≤ b) (hb2 : b ≤ 20) : 0 ≤ hfHi a b := by
  have hh : (1 / 2 : Rat) + 1 / 2 = 1 := by decide +kernel
  have h2 : (0 : Rat) ≤ 1 / 2 := by decide +kernel
  have G := fsG_nn ha hb ha2 hb2
  have F := Rat.mul_nonneg G (Rat.mul_nonneg (rtF_nn a S2_nn) (rtF_nn b S2_nn))
  have s := Rat.mul_le_mul_of_nonneg_left (sR_top (a := a) (b := b) (k := 120) (m := 160) h2 (by rw [hh]; exact Rat.le_refl) (by omega)) F
  have s0 := Rat.mul_nonneg F (sR_nnH (a := a) (b := b) h2 160)
  unfold hfHi
  exact Rat.le_trans s0 s
theorem cnN0 : ((0 : Nat) : Rat) = 0 := rfl
/-- Two lower ends that are at most the halves' are told as at most 1 together. -/
theorem lows_le {a b p A A' : Nat} (ha : 1 ≤ a) (ha2 : a ≤ 20) (hb : 1 ≤ b) (hb2 : b ≤ 20) (hp : p ≤ 60) (h : (A : Rat) ≤ hfHi a b * p2 (p + 300)) (h' : (A' : Rat) ≤ hfHi b a * p2 (p + 300)) : toldLo A p + toldLo A' p ≤ 1 := by
  obtain ⟨s1, s2⟩ := hf_sum ha hb ha2 hb2
  have W := p2_pos (p + 300)
  refine (told_sum (A1 := A) (A2 := A') (B1 := 2 ^ (p + 300)) (B2 := 0) hp ?_ ?_).1
  · have k : (((A + A') * 73786976294838206464 : Nat) : Rat) ≤ ((73786976294838206465 * 2 ^ (p + 300) : Nat) : Rat) := by
      rw [cmN, cmN, cnN]
      show ((A : Rat) + (A' : Rat)) * 73786976294838206464 ≤ 73786976294838206465 * p2 (p + 300)
      have m := Rat.mul_le_mul_of_nonneg_right s2 (show 0 ≤ p2 (p + 300) by grind)
      generalize p2 (p + 300) = w at *
      generalize hfHi a b = q1 at *
      generalize hfHi b a = q2 at *
      grind
    exact_mod_cast k
  · generalize 2 ^ (p + 300) = M
    omega
theorem lo_le1 {a b p A : Nat} (ha : 1 ≤ a) (ha2 : a ≤ 20) (hb : 1 ≤ b) (hb2 : b ≤ 20) (hp : p ≤ 60) (h : (A : Rat) ≤ hfHi a b * p2 (p + 300)) : toldLo A p ≤ 1 := by
  have W := p2_pos (p + 300)
  have t := lows_le (A' := 0) ha ha2 hb hb2 hp h (Rat.mul_nonneg (hfHi_nn hb hb2 ha ha2) (Rat.le_of_lt W))
  have z : 0 ≤ toldLo 0 p := by
    unfold toldLo
    have m := mk_p2n (0 / 2 ^ (p + 300 - (p + 2))) (p + 2)
    refine le_by (p2_pos (p + 2)) ?_
    rw [m, Rat.zero_mul]; exact nat_nonneg _
  grind
theorem hi_nn {B p : Nat} : 0 ≤ toldHi B p := by
  unfold toldHi
  have m := mk_p2n (B / 2 ^ (p + 300 - (p + 2)) + 1) (p + 2)
  refine le_by (p2_pos (p + 2)) ?_
  rw [m, Rat.zero_mul]; exact nat_nonneg _
section
variable {x y : Rat} {a b p L : Nat} {v v' : SV}
/-- A ball of the share between the ends, and what its ends tell. -/
def BallS (a b p : Nat) (x l h : Rat) : Prop :=
  (x + x ≤ 1 ∧ ∃ A B : Nat, RowS a b (p + 300) x A B ∧ A ≤ B ∧ l = toldLo A p ∧ h = toldHi B p) ∨
  (1 < x + x ∧ ∃ A B : Nat, RowS b a (p + 300) (1 - x) A B ∧ A ≤ B ∧ l = 1 - toldHi B p ∧ h = 1 - toldLo A p)
theorem rows_ab {a b w : Nat} {x : Rat} {A B : Nat} (h : RowS a b w x A B) : A ≤ B := by
  obtain ⟨K, h⟩ := h
  have g := h K (Nat.le_refl _)
  have r := sq_mon (nat_nonneg A) (nat_nonneg B) (Rat.le_trans g.1 g.2)
  exact_mod_cast r
theorem incb_ball (hv : RatA v x L) (hL1 : 1 ≤ L) (hL : L ≤ 190) (ha : 1 ≤ a) (ha2 : a ≤ 20) (hb : 1 ≤ b) (hb2 : b ≤ 20) (hp : p ≤ 60) (h0 : 0 < x) (h1 : x < 1) :
    ∃ l h : Rat, Go.Ev.Fn CX 41 [.int .i64 (a : Int), .int .i64 (b : Int), v, .int .i64 (p : Int)] (.tup [ballR l h, .bool true]) ∧ szR l 200 ∧ szR h 200 ∧ BallS a b p x l h := by
  have zx := szR_of hv hL1
  have one1 : szR 1 1 := ⟨lim_len_lt (by decide +kernel), lim_len_lt (by decide +kernel)⟩
  by_cases hh : x + x ≤ 1
  · obtain ⟨A, B, f, g2, g3, rs⟩ := row_sq (a := a) (b := b) (p := p) zx hL1 (by omega) ha ha2 hb hb2 (by omega) (Rat.le_of_lt h0) hh
    have f1 := incb_I_lo hv hL1 (by omega) ha ha2 hb hb2 (by omega) h0 hh f ⟨g2, g3⟩
    obtain ⟨z1, z2⟩ := told_sz (p := p) (by omega) g2 g3
    exact ⟨_, _, f1, szR_mono z1 (by omega), szR_mono z2 (by omega), .inl ⟨hh, A, B, rs, rows_ab rs, rfl, rfl⟩⟩
  · have zy := szR_sub one1 zx (by omega)
    have hh' : 1 < x + x := by grind
    obtain ⟨A, B, f, g2, g3, rs⟩ := row_sq (x := 1 - x) (a := b) (b := a) (p := p) zy (by omega) (by omega) hb hb2 ha ha2 (by omega) (by grind) (by grind)
    have f1 := incb_I_hi hv hL1 (by omega) ha ha2 hb hb2 (by omega) hh' h1 f ⟨g2, g3⟩
    obtain ⟨z1, z2⟩ := told_sz (p := p) (by omega) g2 g3
    exact ⟨_, _, f1, szR_mono (szR_sub one1 z2 (by omega)) (by omega), szR_mono (szR_sub one1 z1 (by omega)) (by omega), .inr ⟨hh', A, B, rs, rows_ab rs, rfl, rfl⟩⟩
theorem ball_le {l h : Rat} (g : BallS a b p x l h) : l ≤ h := by
  rcases g with ⟨-, A, B, -, k, rfl, rfl⟩ | ⟨-, A, B, -, k, rfl, rfl⟩
  · exact told_le k
  · have := told_le (p := p) k
    grind
theorem ball_01 {l h : Rat} (ha : 1 ≤ a) (ha2 : a ≤ 20) (hb : 1 ≤ b) (hb2 : b ≤ 20) (hp : p ≤ 60) (h0 : 0 < x) (h1 : x < 1) (g : BallS a b p x l h) : 0 ≤ h ∧ l ≤ 1 := by
  rcases g with ⟨k, A, B, rs, -, rfl, rfl⟩ | ⟨k, A, B, rs, -, rfl, rfl⟩
  · exact ⟨hi_nn, lo_le1 ha ha2 hb hb2 hp (row_half_le ha ha2 hb hb2 h0 k rs)⟩
  · have t := lo_le1 hb hb2 ha ha2 hp (row_half_le hb hb2 ha ha2 (by grind) (by grind) rs)
    have := hi_nn (B := B) (p := p)
    exact ⟨by grind, by grind⟩
/-- Of the greater number the greater end is not below the lesser one of the lesser number. -/
theorem ball_mono {l h l' h' : Rat} (ha : 1 ≤ a) (ha2 : a ≤ 20) (hb : 1 ≤ b) (hb2 : b ≤ 20) (hp : p ≤ 60) (h0 : 0 < x) (hxy : x ≤ y) (h1 : y < 1) (g : BallS a b p x l h) (g' : BallS a b p y l' h') : l ≤ h' := by
  rcases g with ⟨k, A, B, rs, -, rfl, rfl⟩ | ⟨k, A, B, rs, -, rfl, rfl⟩ <;> rcases g' with ⟨k', A', B', rs', -, rfl, rfl⟩ | ⟨k', A', B', rs', -, rfl, rfl⟩
  · have r := rows_le ha ha2 hb2 h0 hxy k' rs rs'
    exact told_le r
  · have t := lows_le ha ha2 hb hb2 hp (row_half_le ha ha2 hb hb2 h0 k rs) (row_half_le hb hb2 ha ha2 (show 0 < 1 - y by grind) (by grind) rs')
    grind
  · exact absurd k (by grind)
  · have r := rows_le hb hb2 ha2 (show 0 < 1 - y by grind) (show 1 - y ≤ 1 - x by grind) (by grind) rs' rs
    have := told_le (p := p) r
    grind
end
end Go.Proofs.YtodiciendlhkgaaGreat

/- vernierlaw12.IncbRises, in the evaluator. -/
namespace Go.Proofs.YtodiciendlhkgaaGreat
set_option linter.unusedSimpArgs false
set_option linter.unusedVariables false
set_option maxRecDepth 8000
open Go.Ev
set_option linter.unusedVariables false
/-- A ball whose lower end is not above another one's greater end is not above that ball. -/
theorem ref4_SideLe {a b c d : Rat} {L M : Nat} (ha : szR a L) (hb : szR b L) (hc : szR c M) (hd : szR d M) (hL1 : 1 ≤ L) (hM1 : 1 ≤ M) (hL : L + M ≤ 100000) (h2 : a ≤ d) : ∃ n : Int, -1 ≤ n ∧ n ≤ 0 ∧ Go.Ev.Fn CX 11 [ballR a b, ballR c d] (.int .i64 n) := by
  by_cases h1 : c ≤ b
  · exact ⟨0, by omega, by omega, ref4_Side0 ha hb hc hd hL1 hM1 hL h1 h2⟩
  · refine ⟨-1, by omega, by omega, ?_⟩
    have c1 := ref2_Cmp (RatA_rv hb) (RatA_rv hc) hL1 hM1 (by omega)
    have e1 : decide (cmpR b c < 0) = true := by rw [cmpR_lt]; exact decide_eq_true (by grind)
    generalize cmpR b c = z1 at *
    refine Go.Ev.Fn.intro (fn := Tryz.f11) (body := (Tryz.f11).body.get!) (by kernel_rfl) (by kernel_rfl) (by kernel_rfl) (fun _ => rfl) (Nat.le_of_ble_eq_true (by kernel_rfl)) ?_; unfold Tryz.f11; simp only [Option.get!_some]
    repeat (first | (simp only [go_sem, Nat.reduceEqDiff, Nat.reduceAdd, Nat.reduceSub, Nat.reduceMul, Nat.reduceLeDiff, Nat.reduceLT, reduceIte, reduceCtorEq, Nat.succ_ne_zero, elemsC, Int.reduceToNat, Nat.reducePow, e1]) | (simp (disch := (first | omega | (simp only [AL, List.length_map]; omega))) only [AR, AL, ifT, ifF, take_all, List.length_cons, List.length_nil, Int.reduceToNat, Int.reducePow, Nat.reducePow, e1]) | (refine wk_intro (by kernel_rfl) ?_) | (refine vf_of (by first | exact c1) ?_))
section
variable {x y : Rat} {a b p : Int} {s s' : Bool} {n d n' d' : List Nat}
end
/-- Whatever the number: what is told of it. -/
theorem incb_any {x : Rat} {a b p L : Nat} {v : SV} (hv : RatA v x L) (hL1 : 1 ≤ L) (hL : L ≤ 3) (ha : 1 ≤ a) (ha2 : a ≤ 20) (hb : 1 ≤ b) (hb2 : b ≤ 20) (hp : p ≤ 60) :
    ∃ l h : Rat, ∃ ok : Bool, Go.Ev.Fn CX 41 [.int .i64 (a : Int), .int .i64 (b : Int), v, .int .i64 (p : Int)] (.tup [ballR l h, .bool ok]) ∧ szR l 200 ∧ szR h 200 ∧ (ok = true → (x = 0 ∧ l = 0 ∧ h = 0) ∨ (x = 1 ∧ l = 1 ∧ h = 1) ∨ (0 < x ∧ x < 1 ∧ BallS a b p x l h)) := by
  have z0 : szR 0 200 := szR_zero (by omega)
  by_cases bad : x < 0 ∨ 1 < x
  · exact ⟨0, 0, false, incb_I_bad hv hL1 (by omega) (by omega) (by omega) (.inr (.inr bad)), z0, z0, fun h => by cases h⟩
  by_cases ends : x = 0 ∨ x = 1
  · have zx := szR_of hv hL1
    refine ⟨x, x, true, incb_I_ends hv hL1 hL (by omega) (by omega) ends, szR_mono zx (by omega), szR_mono zx (by omega), fun _ => ?_⟩
    rcases ends with e | e
    · exact .inl ⟨e, e, e⟩
    · exact .inr (.inl ⟨e, e, e⟩)
  · have n0 : 0 < x := by grind
    have n1 : x < 1 := by grind
    obtain ⟨l, h, f, z1, z2, g⟩ := incb_ball (a := a) (b := b) (p := p) hv hL1 (by omega) ha ha2 hb hb2 hp n0 n1
    exact ⟨l, h, true, f, z1, z2, fun _ => .inr (.inr ⟨n0, n1, g⟩)⟩
end Go.Proofs.YtodiciendlhkgaaGreat
