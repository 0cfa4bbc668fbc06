/- Part 10 of the proof: the evaluator, contracts of functions and their plain laws (joined by program). No condition. -/
import Derived.Test.YtemnjalaincijaaGreatPart9
set_option linter.unusedVariables false
set_option linter.unusedSimpArgs false
set_option maxRecDepth 100000
namespace Go.Proofs.YtemnjalaincijaaGreat
open Go.Ev
theorem ervP {x : Rat} (h : 0 ≤ x) : rv x = ratV false (lim x.num.natAbs) (lim x.den) := by
  show ratV (decide (x.num < 0)) _ _ = _
  rw [neg_numX, decide_eq_false (Rat.not_lt.2 h)]
theorem times2 (x : Rat) : x * ((2 : Nat) : Rat) / ((1 : Nat) : Rat) = x * 2 := by
  rw [show ((2 : Nat) : Rat) = 2 from rfl, show ((1 : Nat) : Rat) = 1 from rfl]
  generalize x * 2 = z
  have := Rat.div_mul_cancel (a := z) (b := 1) (by decide)
  rw [Rat.mul_one] at this; exact this
theorem SQ_one : (1 : Rat) ≤ SQ ∧ SQ ≤ 2 := by decide +kernel
theorem inv_ball {lo hi : Rat} {w g : Nat} (h1 : 1 ≤ lo) (h2 : lo ≤ hi) (h3 : (hi - lo) * p2 w ≤ (g : Rat)) (hg : g + 2 ≤ 2 ^ w) (hw : 1 ≤ w) :
    2 ^ (2 * w) / (unN hi w + 1) ≤ 2 ^ (2 * w) / unN lo w + 1 ∧ 2 ^ (2 * w) / unN lo w + 1 ≤ 2 * 2 ^ w ∧ 2 ^ (2 * w) / unN lo w + 1 ≤ 2 ^ (2 * w) / (unN hi w + 1) + (g + 4) ∧ 2 ^ w ≤ unN lo w ∧ unN hi w + 1 ≤ unN lo w + (g + 2) := by
  have P : 0 < 2 ^ w := Nat.pow_pos (by omega)
  have pp : 2 ^ (2 * w) = 2 ^ w * 2 ^ w := by rw [← Nat.pow_add]; congr 1; omega
  have u1 := unN_le (show 0 ≤ lo by grind) w
  have u2 := unN_le (show 0 ≤ hi by grind) w
  have W := p2_pos w
  have lo1 : 2 ^ w ≤ unN lo w := by
    have a : p2 w < ((unN lo w + 1 : Nat) : Rat) := by
      have := unN_lt (show 0 ≤ lo by grind) w
      have m := Rat.mul_le_mul_of_nonneg_right h1 (Rat.le_of_lt W)
      grind
    have a2 : 2 ^ w < unN lo w + 1 := by exact_mod_cast a
    omega
  have d : unN hi w + 1 ≤ unN lo w + (g + 2) := by
    have a : ((unN hi w : Nat) : Rat) < ((unN lo w + 1 + g : Nat) : Rat) := by
      have := unN_lt (show 0 ≤ lo by grind) w
      rw [Ex.castadd (unN lo w + 1) g]
      grind
    have a2 : unN hi w < unN lo w + 1 + g := by exact_mod_cast a
    omega
  have m := unN_mono (show 0 ≤ lo by grind) h2 w
  obtain ⟨i1, i2, i3⟩ := inv_gapE (M := 2 ^ (2 * w)) (lo := unN lo w) (hi := unN hi w + 1) (W := 2 ^ w) P pp lo1 (by omega) (by omega)
  exact ⟨by omega, by omega, by omega, lo1, d⟩
section
variable {N D w n : Nat}
theorem incg_roots {v : SV} {x : Rat} (hv : RatA v x 7) (h0 : 0 ≤ x) (h64 : x ≤ 64) (hw0 : 8 ≤ w) (hw : w < 233) :
    ∃ R1 R2 : Nat, ∃ lo hi : Rat, Go.Ev.Fn CX 126 [v, .int .i64 (w : Int)] (spanV R1 R2) ∧ R1 ≤ R2 ∧ R2 ≤ 21 * 2 ^ w ∧ R2 ≤ R1 + 100 ∧ 0 ≤ lo ∧ lo ≤ hi ∧ lo * lo ≤ x ∧ x ≤ hi * hi ∧ ∀ s, lo ≤ s → s ≤ hi → Enc w R1 R2 (s * (1 / SQ)) := by
  obtain ⟨lo, hi, fs, l0, lh, l1, l2, l3, y1, y2⟩ := root_Sqrt (p := w) hv h0 (by omega) (by omega) (by omega)
  obtain ⟨m1, m2, fp, h1, h2, h3, h4, z1, z2⟩ := many_pi hw0 hw
  obtain ⟨lo', hi', fr, r1, r2, r3, x1, x2⟩ := many_root hw h1 h2 h3 h4 z1 z2
  have P : 2 ^ 8 ≤ 2 ^ w := Nat.pow_le_pow_right (by omega) hw0
  have W := p2_pos w
  have W8 : ((256 : Nat) : Rat) ≤ p2 w := Ex.castle P
  rw [show ((256 : Nat) : Rat) = 256 from rfl] at W8
  obtain ⟨q1, q2⟩ := SQ_one
  have sq2 : (3 / 2 : Rat) ≤ SQ := by decide +kernel
  have lo1 : 1 ≤ lo' := by
    refine Rat.not_lt.1 fun g => ?_
    have := Rat.mul_le_mul_of_nonneg_left W8 (show 0 ≤ hi' - lo' by grind)
    have h32 : (3 / 2 : Rat) * 2 = 3 := by decide +kernel
    grind
  have lh' : lo' ≤ hi' := by grind
  obtain ⟨i1, i2, i3, i4, i5⟩ := inv_ball (w := w) (g := 3) lo1 lh' r3 (by omega) (by omega)
  have hlo : lo ≤ 8 := by
    refine Rat.not_lt.1 fun g => ?_
    have a := Rat.mul_le_mul_of_nonneg_right (Rat.le_of_lt g) l0
    grind
  have hhi : hi ≤ 9 := by
    refine Rat.not_lt.1 fun g => ?_
    have := Rat.mul_le_mul_of_nonneg_left W8 (show 0 ≤ hi - lo by grind)
    grind
  have uh : unN hi w + 1 ≤ 9 * 2 ^ w + 1 := by
    have u := (unN_le (show 0 ≤ hi by grind) w).1
    have m := Rat.mul_le_mul_of_nonneg_right hhi (Rat.le_of_lt W)
    have t : ((unN hi w : Nat) : Rat) ≤ ((9 * 2 ^ w : Nat) : Rat) := by
      rw [Ex.castmul]; exact Rat.le_trans u m
    have : unN hi w ≤ 9 * 2 ^ w := by exact_mod_cast t
    omega
  have ul : unN hi w + 1 ≤ unN lo w + 3 := by
    have a : ((unN hi w : Nat) : Rat) < ((unN lo w + 1 + 1 : Nat) : Rat) := by
      have b := unN_lt (show 0 ≤ lo by grind) w
      have c := (unN_le (show 0 ≤ hi by grind) w).1
      rw [Ex.castadd (unN lo w + 1) 1, show ((1 : Nat) : Rat) = 1 from rfl]
      grind
    have a2 : unN hi w < unN lo w + 1 + 1 := by exact_mod_cast a
    omega
  have um : unN lo w ≤ unN hi w + 1 := Nat.le_succ_of_le (unN_mono l0 lh w)
  have b1 := fix_Ball (w := w) (szR_mono y1 (show _ ≤ 200 by omega)) (szR_mono y2 (show _ ≤ 200 by omega)) (by omega) (by omega)
  have b2 := fix_Ball (w := w) (szR_mono x1 (show _ ≤ 200 by omega)) (szR_mono x2 (show _ ≤ 200 by omega)) (by omega) (by omega)
  obtain ⟨j1, j2, j3⟩ := mulS (w := w) (α := 10) (β := 2) (γ := 3) (δ := 7) um i1 (show unN hi w + 1 ≤ 10 * 2 ^ w by omega) i2 ul i3
  have e9 : 2 ^ (w + 9) = 2 ^ w * 512 := Nat.pow_add _ _ _
  have lh2 : unN hi' w + 1 ≤ 9 * 2 ^ w := by
    have hi3 : hi' ≤ 3 := by
      refine Rat.not_lt.1 fun g => ?_
      have := Rat.mul_le_mul_of_nonneg_left W8 (show 0 ≤ hi' - lo' by grind)
      grind
    have u := (unN_le (show 0 ≤ hi' by grind) w).1
    have m := Rat.mul_le_mul_of_nonneg_right hi3 (Rat.le_of_lt W)
    have t : ((unN hi' w : Nat) : Rat) ≤ ((3 * 2 ^ w : Nat) : Rat) := by
      rw [Ex.castmul]; exact Rat.le_trans u m
    have : unN hi' w ≤ 3 * 2 ^ w := by exact_mod_cast t
    omega
  have um2 := unN_mono (show 0 ≤ lo' by grind) lh' w
  have k1 := lim_len_pw (n := unN lo w) (w := w + 9) (by omega)
  have k2 := lim_len_pw (n := unN hi w + 1) (w := w + 9) (by omega)
  have k3 := lim_len_pw (n := unN lo' w) (w := w + 9) (by omega)
  have k4 := lim_len_pw (n := unN hi' w + 1) (w := w + 9) (by omega)
  have k5 := lim_len_pw (n := 2 ^ (2 * w) / unN lo' w + 1) (w := w + 9) (by omega)
  have k6 := lim_len_pw (n := 2 ^ (2 * w) / (unN hi' w + 1)) (w := w + 9) (by omega)
  have iv := fix_Inverse (a := unN lo' w) (b := unN hi' w + 1) (w := w) (by omega) (by omega) (by omega) (by omega) (by omega)
  have mu := fix_Mul (a := unN lo w) (b := unN hi w + 1) (c := 2 ^ (2 * w) / (unN hi' w + 1)) (d := 2 ^ (2 * w) / unN lo' w + 1) (w := w) (by omega) (by omega) (by omega) (by omega) (by omega) (by omega)
  have en : ∀ s, lo ≤ s → s ≤ hi → Enc w (unN lo w * (2 ^ (2 * w) / (unN hi' w + 1)) / 2 ^ w) ((unN hi w + 1) * (2 ^ (2 * w) / unN lo' w + 1) / 2 ^ w + 1) (s * (1 / SQ)) := fun s g1 g2 => enc_mul (ball_enc l0 g1 g2 w) (enc_inv (show 0 < unN lo' w by omega) (ball_enc (show 0 ≤ lo' by grind) r1 r2 w)).1
  refine ⟨_, _, lo, hi, ?_, j1, by omega, by omega, l0, lh, l1, l2, en⟩
  clear en j1 j2 j3 i1 i2 i3 i4 i5 l0 lh l1 l2 l3 h1 h2 h3 h4 r1 r2 r3 k1 k2 k3 k4 k5 k6 lo1 lh' hlo hhi uh ul um lh2 q1 q2 sq2
  generalize 2 ^ (2 * w) / (unN hi' w + 1) = I1 at *
  generalize 2 ^ (2 * w) / unN lo' w + 1 = I2 at *
  generalize unN hi w + 1 = u2 at *
  generalize unN lo w = u1 at *
  generalize unN hi' w + 1 = u4 at *
  generalize unN lo' w = u3 at *
  generalize u1 * I1 / 2 ^ w = Z1 at *
  generalize u2 * I2 / 2 ^ w + 1 = Z2 at *
  obtain ⟨s0, n0, d0, rfl, -⟩ := hv
  refine Go.Ev.Fn.intro (fn := Tryz.f126) (body := (Tryz.f126).body.get!) (by kernel_rfl) (by kernel_rfl) (by kernel_rfl) (fun _ => rfl) (Nat.le_of_ble_eq_true (by kernel_rfl)) ?_; unfold Tryz.f126; simp only [Option.get!_some]
  repeat (first | (simp only [go_sem, Nat.reduceEqDiff, Nat.reduceAdd, Nat.reduceSub, Nat.reduceMul, Nat.reduceLeDiff, Nat.reduceLT, reduceIte, reduceCtorEq, Nat.succ_ne_zero, elemsC, Int.reduceToNat, Nat.reducePow]) | (simp (disch := (first | omega | (simp only [AL, List.length_map]; omega))) only [AR, AL, ifT, ifF, take_all, List.length_cons, List.length_nil, Int.reduceToNat, Int.reducePow, Nat.reducePow]) | (refine wk_intro (by kernel_rfl) ?_) | (refine vp_draw (id := 3) (l := []) (by kernel_rfl) ?_) | (refine vf_of (by first | exact fs | exact fp | exact fr | exact b1 | exact b2 | exact iv | exact mu) ?_))
def igC (n : Nat) (s : Rat) : Rat := if n % 2 = 1 then s * (1 / SQ) * 2 else 1
set_option maxHeartbeats 1000000 in
theorem incg_power {x : Rat} (hz : szR x 7) (h0 : 0 ≤ x) (h64 : x ≤ 64) (hn : 1 ≤ n) (hn2 : n ≤ 30) (hw0 : 8 ≤ w) (hw : w < 233) :
    ∃ A B : Nat, ∃ lo hi : Rat, Go.Ev.Fn CX 61 [.int .i64 (n : Int), rv x, .int .i64 (w : Int)] (spanV A B) ∧ A ≤ B ∧ B ≤ (igP n).1 * 2 ^ w ∧ B ≤ A + (igP n).2 ∧ 0 ≤ lo ∧ lo ≤ hi ∧ lo * lo ≤ x ∧ x ≤ hi * hi ∧ ∀ s, lo ≤ s → s ≤ hi → Enc w A B (igC n s * tk (x * 2) (2 + n % 2) (n / 2)) := by
  obtain ⟨R1, R2, lo, hi, fr, r1, r2, r3, l0, lh, l1, l2, en⟩ := incg_roots (w := w) (RatA_rv hz) h0 h64 hw0 hw
  have zp := Nat.le_trans hz.1 (show 7 ≤ 100 by omega)
  have zd := Nat.le_trans hz.2 (show 7 ≤ 100 by omega)
  have er : rv x = ratV false (lim x.num.natAbs) (lim x.den) := ervP h0
  have hN : x.num.natAbs ≤ 64 * x.den := by
    have d := Ex.denR x
    have e : ((x.num.natAbs : Nat) : Rat) = (x.num : Rat) := by rw [← castZn, num_abs h0]
    have dR : (0 : Rat) < (x.den : Rat) := by exact_mod_cast x.den_pos
    have m := Rat.mul_le_mul_of_nonneg_right h64 (Rat.le_of_lt dR)
    rw [d, ← e] at m
    have : ((x.num.natAbs : Nat) : Rat) ≤ ((64 * x.den : Nat) : Rat) := by rw [Ex.castmul]; exact m
    exact_mod_cast this
  have hx : x * (x.den : Rat) = ((x.num.natAbs : Nat) : Rat) := by rw [Ex.denR x, ← castZn, num_abs h0]
  have hD := x.den_pos
  rw [er] at fr ⊢
  generalize x.num.natAbs = N at *
  generalize x.den = D at *
  have fx := fix_RatS (s := false) (n := N) (d := D) (w := w) hD (by omega) (by omega) (by omega)
  have P : 2 ^ 8 ≤ 2 ^ w := Nat.pow_le_pow_right (by omega) (by omega)
  obtain ⟨b1, b2, b3, b4, b5⟩ := by_ok (w := w) hD hN (by omega)
  have by5 := b5 x hx
  clear b5
  generalize N * 2 ^ w / D = T at *
  have e9 : 2 ^ (w + 9) = 2 ^ w * 512 := Nat.pow_add _ _ _
  have lT := lim_len_pw (n := T) (w := w + 9) (by omega)
  have lT1 := lim_len_pw (n := T + 1) (w := w + 9) (by omega)
  have o2 := nat_Of 2 (by omega)
  have o1 := fix_One
  have l1' := lim_len1
  have l2' : (lim 2).length ≤ 1 := lim_len_one (by decide)
  have ti := fix_Times (a := T) (b := T + 1) (n := 2) (d := 1) (by omega) (by omega) (by omega) (by omega) (by omega)
  have un := fix_Unit (w := w) (by omega)
  have lR1 := lim_len_pw (n := R1) (w := w + 9) (by omega)
  have lR2 := lim_len_pw (n := R2) (w := w + 9) (by omega)
  have tr := fix_Times (a := R1) (b := R2) (n := 2) (d := 1) (by omega) (by omega) (by omega) (by omega) (by omega)
  generalize T * 2 / 1 = Q1 at *
  generalize (T + 1) * 2 / 1 + 1 = Q2 at *
  have lQ1 := lim_len_pw (n := Q1) (w := w + 9) (by omega)
  have lQ2 := lim_len_pw (n := Q2) (w := w + 9) (by omega)
  have step : ∀ (k a b : Nat), 1 ≤ k → k < 1000 → a ≤ b → (lim b).length ≤ 2000 → (Go.Ev.Fn CX 60 [spanV a b, spanV Q1 Q2, .int .i64 (w : Int)] (spanV (a * Q1 / 2 ^ w) (b * Q2 / 2 ^ w + 1))) ∧ Go.Ev.Fn CX 125 [spanV (a * Q1 / 2 ^ w) (b * Q2 / 2 ^ w + 1), natV (lim 1), natV (lim k)] (spanV (a * Q1 / 2 ^ w * 1 / k) ((b * Q2 / 2 ^ w + 1) * 1 / k + 1)) ∧ a * Q1 / 2 ^ w * 1 / k ≤ (b * Q2 / 2 ^ w + 1) * 1 / k + 1 ∧ (lim ((b * Q2 / 2 ^ w + 1) * 1 / k + 1)).length ≤ (lim b).length + 20 := by
    intro k a b hk hk2 hab hb
    have la := lim_len_mono hab
    have z1 := lim_len_mul (a := a) (b := Q1)
    have z2 := lim_len_mul (a := b) (b := Q2)
    have z3 := lim_len_mono (Nat.div_le_self (a * Q1) (2 ^ w))
    have z5 := lim_len_mono (Nat.div_le_self (b * Q2) (2 ^ w))
    have z4 := lim_len_add (a := b * Q2 / 2 ^ w) (b := 1) (L := (lim b).length + 9) (by omega) (by omega)
    have z6 := lim_len_mono (Nat.div_le_self ((b * Q2 / 2 ^ w + 1) * 1) k)
    rw [Nat.mul_one (b * Q2 / 2 ^ w + 1)] at z6
    have z7 := lim_len_add (a := (b * Q2 / 2 ^ w + 1) * 1 / k) (b := 1) (L := (lim b).length + 10) (by rw [Nat.mul_one]; omega) (by omega)
    have lk : (lim k).length ≤ 1 := lim_len_one (by omega)
    refine ⟨fix_Mul (by omega) (by omega) (by omega) (by omega) (by omega) (by omega), fix_Times (by omega) (by omega) (by omega) (by omega) (by omega), ?_, by omega⟩
    refine Nat.le_succ_of_le (Nat.div_le_div_right (Nat.mul_le_mul_right 1 ?_))
    exact Nat.le_succ_of_le (Nat.div_le_div_right (Nat.mul_le_mul hab b1))
  have an := and_one64 (a := n) (by omega)
  by_cases hod : n % 2 = 1
  · have gP : igP n = wPow 129 41 (n / 2) 3 50 400 := if_pos hod
    obtain ⟨c1, c2, c3⟩ := pRow_wide (W := 129) (D := 41) b3 b1 b2 (n / 2) 3 (R1 * 2 / 1) (R2 * 2 / 1 + 1) 50 400 (by omega) (by omega) (by omega) (by omega)
    rw [← gP] at c2 c3
    have hk0 : 2 + n % 2 = 3 := by omega
    have pe : ∀ s, lo ≤ s → s ≤ hi → Enc w (pRow w Q1 Q2 (n / 2) 3 (R1 * 2 / 1) (R2 * 2 / 1 + 1)).1 (pRow w Q1 Q2 (n / 2) 3 (R1 * 2 / 1) (R2 * 2 / 1 + 1)).2 (igC n s * tk (x * 2) (2 + n % 2) (n / 2)) := by
      intro s g1 g2
      rw [hk0]
      have h := pRow_enc (c := igC n s) (k0 := 3) (by omega) by5 (n / 2) 0 _ _ (by
      have e := enc_times (n := 2) (d := 1) (by omega) (en s g1 g2)
      rw [times2] at e
      rw [show igC n s = s * (1 / SQ) * 2 from if_pos hod]
      show Enc w _ _ (_ * 1)
      rw [Rat.mul_one]; exact e)
      rw [Nat.zero_add] at h
      exact h
    obtain ⟨A, B, hAB⟩ : ∃ A B : Nat, pRow w Q1 Q2 (n / 2) 3 (R1 * 2 / 1) (R2 * 2 / 1 + 1) = (A, B) := ⟨_, _, rfl⟩
    rw [hAB] at c1 c2 c3 pe
    refine ⟨A, B, lo, hi, ?_, c1, c2, c3, l0, lh, l1, l2, pe⟩
    have lS : (lim (R2 * 2 / 1 + 1)).length ≤ 100 := Nat.le_trans (lim_len_pw (w := w + 9) (by omega)) (by omega)
    have hS : R1 * 2 / 1 ≤ (R2 * 2 / 1 + 1) := by omega
    rw [hod] at an
    clear pe c1 c2 c3 gP hk0 en by5 b2 b3 b4 e9 P l0 lh l1 l2 r1 r2 r3
    generalize R1 * 2 / 1 = S1 at *
    generalize R2 * 2 / 1 + 1 = S2 at *
    refine Go.Ev.Fn.intro (fn := Tryz.f61) (body := (Tryz.f61).body.get!) (by kernel_rfl) (by kernel_rfl) (by kernel_rfl) (fun _ => rfl) (Nat.le_of_ble_eq_true (by kernel_rfl)) ?_; unfold Tryz.f61; simp only [Option.get!_some]
    repeat (first | (simp only [go_sem, Nat.reduceEqDiff, Nat.reduceAdd, Nat.reduceSub, Nat.reduceMul, Nat.reduceLeDiff, Nat.reduceLT, reduceIte, reduceCtorEq, Nat.succ_ne_zero, elemsC, Int.reduceToNat, Nat.reducePow, an]) | (simp (disch := (first | omega | (simp only [AL, List.length_map]; omega))) only [AR, AL, ifT, ifF, take_all, List.length_cons, List.length_nil, Int.reduceToNat, Int.reducePow, Nat.reducePow, an]) | (refine wk_intro (by kernel_rfl) ?_) | (refine vf_of (by first | exact un | exact fr | exact o2 | exact o1 | exact tr | exact fx | exact ti) ?_))
    refine vp_loop_inv (fun s' => s'.tmp 0 = .sv (.int .i64 (n : Int)) ∧ s'.tmp 2 = .sv (.int .i64 (w : Int)) ∧ s'.tmp 6 = .ptr 6 0 0 ∧ s'.obj 6 0 = some [.sl 0 [], .sl 0 []] ∧ s'.tmp 7 = .ptr 7 0 0 ∧ s'.tmp 9 = .ptr 9 0 0 ∧ s'.obj 9 0 = some [natV (lim Q1), natV (lim Q2)] ∧
        ∃ f i a b : Nat, s'.tmp 10 = .sv (.int .i64 ((3 + 2 * i : Nat) : Int)) ∧ f + i = n / 2 ∧ pRow w Q1 Q2 f (3 + 2 * i) a b = (A, B) ∧ s'.obj 7 0 = some [natV (lim a), natV (lim b)] ∧ a ≤ b ∧ (lim b).length ≤ 100 + 20 * i)
      (fun s' => match s'.tmp 10 with | .sv (.int _ i) => 1000 - i.toNat | _ => 0) ⟨rfl, rfl, rfl, rfl, rfl, rfl, rfl, n / 2, 0, S1, S2, rfl, by omega, hAB, rfl, hS, by omega⟩ ?_
    rintro s' ⟨i0, i2, i6, o6, i7, i9, o9, f, i, a, b, i10, hfi, hgo, o7, hab, hlb⟩
    have la := lim_len_mono hab
    cases f with
    | zero =>
        have hgo' : (a, b) = (A, B) := hgo
        simp only [Prod.mk.injEq] at hgo'
        obtain ⟨rfl, rfl⟩ := hgo'
        clear step hAB
        repeat (first | (simp only [go_sem, Nat.reduceEqDiff, Nat.reduceAdd, Nat.reduceSub, Nat.reduceMul, Nat.reduceLeDiff, Nat.reduceLT, reduceIte, reduceCtorEq, Nat.succ_ne_zero, elemsC, Int.reduceToNat, Nat.reducePow, i0, i2, i6, o6, i7, i9, o9, i10, o7]) | (simp (disch := (first | omega | (simp only [AL, List.length_map]; omega))) only [AR, AL, ifT, ifF, take_all, List.length_cons, List.length_nil, Int.reduceToNat, Int.reducePow, Nat.reducePow, i0, i2, i6, o6, i7, i9, o9, i10, o7]) | (refine wk_intro (by kernel_rfl) ?_))
    | succ f =>
        obtain ⟨mu, tk, s1, s2⟩ := step (3 + 2 * i) a b (by omega) (by omega) hab (by omega)
        have qk := nat_Of (3 + 2 * i) (by omega)
        have hgo' : pRow w Q1 Q2 f (3 + 2 * i + 2) (a * Q1 / 2 ^ w * 1 / (3 + 2 * i)) ((b * Q2 / 2 ^ w + 1) * 1 / (3 + 2 * i) + 1) = (A, B) := hgo
        clear step hAB hgo
        generalize a * Q1 / 2 ^ w * 1 / (3 + 2 * i) = u1 at *
        generalize (b * Q2 / 2 ^ w + 1) * 1 / (3 + 2 * i) + 1 = u2 at *
        generalize a * Q1 / 2 ^ w = v1 at *
        generalize b * Q2 / 2 ^ w + 1 = v2 at *
        repeat (first | (simp only [go_sem, Nat.reduceEqDiff, Nat.reduceAdd, Nat.reduceSub, Nat.reduceMul, Nat.reduceLeDiff, Nat.reduceLT, reduceIte, reduceCtorEq, Nat.succ_ne_zero, elemsC, Int.reduceToNat, Nat.reducePow, i0, i2, i6, o6, i7, i9, o9, i10, o7]) | (simp (disch := (first | omega | (simp only [AL, List.length_map]; omega))) only [AR, AL, ifT, ifF, take_all, List.length_cons, List.length_nil, Int.reduceToNat, Int.reducePow, Nat.reducePow, i0, i2, i6, o6, i7, i9, o9, i10, o7]) | (refine wk_intro (by kernel_rfl) ?_) | (refine vf_of (by first | exact mu | exact o1 | exact qk | exact tk) ?_))
        exact ⟨⟨f, i + 1, u1, u2, by first | rfl | (congr 2; omega), by omega, hgo', rfl, s1, by omega⟩, by omega⟩
  · have gP : igP n = wPow 129 41 (n / 2) 2 2 1 := if_neg hod
    obtain ⟨c1, c2, c3⟩ := pRow_wide (W := 129) (D := 41) b3 b1 b2 (n / 2) 2 (2 ^ w) (2 ^ w + 1) 2 1 (by omega) (by omega) (by omega) (by omega)
    rw [← gP] at c2 c3
    have hk0 : 2 + n % 2 = 2 := by omega
    have pe : ∀ s, lo ≤ s → s ≤ hi → Enc w (pRow w Q1 Q2 (n / 2) 2 (2 ^ w) (2 ^ w + 1)).1 (pRow w Q1 Q2 (n / 2) 2 (2 ^ w) (2 ^ w + 1)).2 (igC n s * tk (x * 2) (2 + n % 2) (n / 2)) := by
      intro s g1 g2
      rw [hk0]
      have h := pRow_enc (c := igC n s) (k0 := 2) (by omega) by5 (n / 2) 0 _ _ (by
      rw [show igC n s = 1 from if_neg hod]
      show Enc w _ _ (1 * 1)
      rw [Rat.mul_one]; exact one_encE w)
      rw [Nat.zero_add] at h
      exact h
    obtain ⟨A, B, hAB⟩ : ∃ A B : Nat, pRow w Q1 Q2 (n / 2) 2 (2 ^ w) (2 ^ w + 1) = (A, B) := ⟨_, _, rfl⟩
    rw [hAB] at c1 c2 c3 pe
    refine ⟨A, B, lo, hi, ?_, c1, c2, c3, l0, lh, l1, l2, pe⟩
    have lS : (lim (2 ^ w + 1)).length ≤ 100 := Nat.le_trans (lim_len_pw (w := w + 9) (by omega)) (by omega)
    have hS : 2 ^ w ≤ (2 ^ w + 1) := by omega
    rw [show n % 2 = 0 by omega] at an
    clear pe c1 c2 c3 gP hk0 en by5 b2 b3 b4 e9 P l0 lh l1 l2 r1 r2 r3
    obtain ⟨S1, hS1⟩ : ∃ z : Nat, z = 2 ^ w := ⟨_, rfl⟩
    rw [← hS1] at un hAB hS lS
    refine Go.Ev.Fn.intro (fn := Tryz.f61) (body := (Tryz.f61).body.get!) (by kernel_rfl) (by kernel_rfl) (by kernel_rfl) (fun _ => rfl) (Nat.le_of_ble_eq_true (by kernel_rfl)) ?_; unfold Tryz.f61; simp only [Option.get!_some]
    repeat (first | (simp only [go_sem, Nat.reduceEqDiff, Nat.reduceAdd, Nat.reduceSub, Nat.reduceMul, Nat.reduceLeDiff, Nat.reduceLT, reduceIte, reduceCtorEq, Nat.succ_ne_zero, elemsC, Int.reduceToNat, Nat.reducePow, an]) | (simp (disch := (first | omega | (simp only [AL, List.length_map]; omega))) only [AR, AL, ifT, ifF, take_all, List.length_cons, List.length_nil, Int.reduceToNat, Int.reducePow, Nat.reducePow, an]) | (refine wk_intro (by kernel_rfl) ?_) | (refine vf_of (by first | exact un | exact fx | exact o2 | exact o1 | exact ti) ?_))
    refine vp_loop_inv (fun s' => s'.tmp 0 = .sv (.int .i64 (n : Int)) ∧ s'.tmp 2 = .sv (.int .i64 (w : Int)) ∧ s'.tmp 6 = .ptr 6 0 0 ∧ s'.obj 6 0 = some [.sl 0 [], .sl 0 []] ∧ s'.tmp 7 = .ptr 7 0 0 ∧ s'.tmp 9 = .ptr 9 0 0 ∧ s'.obj 9 0 = some [natV (lim Q1), natV (lim Q2)] ∧
        ∃ f i a b : Nat, s'.tmp 10 = .sv (.int .i64 ((2 + 2 * i : Nat) : Int)) ∧ f + i = n / 2 ∧ pRow w Q1 Q2 f (2 + 2 * i) a b = (A, B) ∧ s'.obj 7 0 = some [natV (lim a), natV (lim b)] ∧ a ≤ b ∧ (lim b).length ≤ 100 + 20 * i)
      (fun s' => match s'.tmp 10 with | .sv (.int _ i) => 1000 - i.toNat | _ => 0) ⟨rfl, rfl, rfl, rfl, rfl, rfl, rfl, n / 2, 0, S1, (S1 + 1), rfl, by omega, hAB, rfl, hS, by omega⟩ ?_
    rintro s' ⟨i0, i2, i6, o6, i7, i9, o9, f, i, a, b, i10, hfi, hgo, o7, hab, hlb⟩
    have la := lim_len_mono hab
    cases f with
    | zero =>
        have hgo' : (a, b) = (A, B) := hgo
        simp only [Prod.mk.injEq] at hgo'
        obtain ⟨rfl, rfl⟩ := hgo'
        clear step hAB
        repeat (first | (simp only [go_sem, Nat.reduceEqDiff, Nat.reduceAdd, Nat.reduceSub, Nat.reduceMul, Nat.reduceLeDiff, Nat.reduceLT, reduceIte, reduceCtorEq, Nat.succ_ne_zero, elemsC, Int.reduceToNat, Nat.reducePow, i0, i2, i6, o6, i7, i9, o9, i10, o7]) | (simp (disch := (first | omega | (simp only [AL, List.length_map]; omega))) only [AR, AL, ifT, ifF, take_all, List.length_cons, List.length_nil, Int.reduceToNat, Int.reducePow, Nat.reducePow, i0, i2, i6, o6, i7, i9, o9, i10, o7]) | (refine wk_intro (by kernel_rfl) ?_))
    | succ f =>
        obtain ⟨mu, tk, s1, s2⟩ := step (2 + 2 * i) a b (by omega) (by omega) hab (by omega)
        have qk := nat_Of (2 + 2 * i) (by omega)
        have hgo' : pRow w Q1 Q2 f (2 + 2 * i + 2) (a * Q1 / 2 ^ w * 1 / (2 + 2 * i)) ((b * Q2 / 2 ^ w + 1) * 1 / (2 + 2 * i) + 1) = (A, B) := hgo
        clear step hAB hgo
        generalize a * Q1 / 2 ^ w * 1 / (2 + 2 * i) = u1 at *
        generalize (b * Q2 / 2 ^ w + 1) * 1 / (2 + 2 * i) + 1 = u2 at *
        generalize a * Q1 / 2 ^ w = v1 at *
        generalize b * Q2 / 2 ^ w + 1 = v2 at *
        repeat (first | (simp only [go_sem, Nat.reduceEqDiff, Nat.reduceAdd, Nat.reduceSub, Nat.reduceMul, Nat.reduceLeDiff, Nat.reduceLT, reduceIte, reduceCtorEq, Nat.succ_ne_zero, elemsC, Int.reduceToNat, Nat.reducePow, i0, i2, i6, o6, i7, i9, o9, i10, o7]) | (simp (disch := (first | omega | (simp only [AL, List.length_map]; omega))) only [AR, AL, ifT, ifF, take_all, List.length_cons, List.length_nil, Int.reduceToNat, Int.reducePow, Nat.reducePow, i0, i2, i6, o6, i7, i9, o9, i10, o7]) | (refine wk_intro (by kernel_rfl) ?_) | (refine vf_of (by first | exact mu | exact o1 | exact qk | exact tk) ?_))
        exact ⟨⟨f, i + 1, u1, u2, by first | rfl | (congr 2; omega), by omega, hgo', rfl, s1, by omega⟩, by omega⟩
end
end Go.Proofs.YtemnjalaincijaaGreat
namespace Go.Proofs.YtemnjalaincijaaGreat
open Go.Ev
theorem ev_le1 {z : Rat} (h : z < 0) {L : Nat} (hL : 1 ≤ L) : evX z L ≤ 1 ∧ 0 ≤ evX z L := by
  unfold evX
  rw [if_pos h]
  have one := E_one (x := -z) (by grind) hL
  have i : Ex.E (-z) L * (1 / Ex.E (-z) L) = 1 := Ex.mul_div _ 1 (by grind)
  have i0 : 0 ≤ 1 / Ex.E (-z) L := Ex.div_nn (by decide) (by grind)
  have := Rat.mul_le_mul_of_nonneg_right one i0
  rw [i, Rat.one_mul] at this
  exact ⟨this, i0⟩
def igV (n : Nat) (s x : Rat) (L : Nat) : Rat := igC n s * tk (x * 2) (2 + n % 2) (n / 2) * (1 * sk (x * 2) (n + 2) L) * evX (-x) L
section
variable {v : SV} {x : Rat} {n P : Nat} {pI : Int}
theorem incg_in {nI : Int} (hz : szR x 7) (h0 : 0 ≤ x) (h64 : x ≤ 64) (hn : 1 ≤ nI) (hn2 : nI ≤ 256) : Go.Ev.Fn CX 54 [.int .i64 nI, rv x] (.bool false) := by
  have i0 := rat_Int 0 (by omega)
  have i6 := rat_Int 64 (by omega)
  have c1 := rat_Cmp (RatA_rv hz) (RatA_rv (int_szR (n := 0) (by omega))) (by omega) (by omega) (by omega)
  have c2 := rat_Cmp (RatA_rv hz) (RatA_rv (int_szR (n := 64) (by omega))) (by omega) (by omega) (by omega)
  have e1 : decide (cmpR x ((0 : Int) : Rat) < 0) = false := by rw [cmpR_lt]; exact decide_eq_false (Rat.not_lt.2 h0)
  have e2 : decide (cmpR x ((64 : Int) : Rat) > 0) = false := by rw [cmpR_gt]; exact decide_eq_false (Rat.not_lt.2 h64)
  generalize cmpR x ((0 : Int) : Rat) = y1 at *
  generalize cmpR x ((64 : Int) : Rat) = y2 at *
  clear h0 h64
  refine Go.Ev.Fn.intro (fn := Tryz.f54) (body := (Tryz.f54).body.get!) (by kernel_rfl) (by kernel_rfl) (by kernel_rfl) (fun _ => rfl) (Nat.le_of_ble_eq_true (by kernel_rfl)) ?_; unfold Tryz.f54; simp only [Option.get!_some]
  repeat (first | (simp only [go_sem, Nat.reduceEqDiff, Nat.reduceAdd, Nat.reduceSub, Nat.reduceMul, Nat.reduceLeDiff, Nat.reduceLT, reduceIte, reduceCtorEq, Nat.succ_ne_zero, elemsC, Int.reduceToNat, Nat.reducePow, e1, e2]) | (simp (disch := (first | omega | (simp only [AL, List.length_map]; omega))) only [AR, AL, ifT, ifF, take_all, List.length_cons, List.length_nil, Int.reduceToNat, Int.reducePow, Nat.reducePow, e1, e2]) | (refine wk_intro (by kernel_rfl) ?_) | (refine vp_draw (id := 1) (l := []) (by kernel_rfl) ?_) | (refine vf_of (by first | exact i0 | exact c1 | exact i6 | exact c2) ?_))
theorem incg_Pzero {nI : Int} (hv : RatA v 0 7) (hn : 1 ≤ nI) (hn2 : nI ≤ 256) : Go.Ev.Fn CX 16 [.int .i64 nI, v, .int .i64 pI] (.tup [ballR 0 0, .bool true]) := by
  have nm := rat_Norm hv (by omega)
  have zz := szR_of hv (by omega)
  have io := incg_in (nI := nI) zz (by decide) (by decide) hn hn2
  have zr := rat_Zero (RatA_rv zz) (by omega) (by omega)
  rw [decide_eq_true rfl] at zr
  have i0 := rat_Int 0 (by omega)
  have o := ball_Of (RatA_rv (int_szR (n := 0) (by omega))) (by omega)
  rw [show ((0 : Int) : Rat) = 0 from rfl] at i0 o
  clear hn hn2 zz
  obtain ⟨s, N, D, rfl, -⟩ := hv
  refine Go.Ev.Fn.intro (fn := Tryz.f16) (body := (Tryz.f16).body.get!) (by kernel_rfl) (by kernel_rfl) (by kernel_rfl) (fun _ => rfl) (Nat.le_of_ble_eq_true (by kernel_rfl)) ?_; unfold Tryz.f16; simp only [Option.get!_some]
  repeat (first | (simp only [go_sem, Nat.reduceEqDiff, Nat.reduceAdd, Nat.reduceSub, Nat.reduceMul, Nat.reduceLeDiff, Nat.reduceLT, reduceIte, reduceCtorEq, Nat.succ_ne_zero, elemsC, Int.reduceToNat, Nat.reducePow, Bool.not_false]) | (simp (disch := (first | omega | (simp only [AL, List.length_map]; omega))) only [AR, AL, ifT, ifF, take_all, List.length_cons, List.length_nil, Int.reduceToNat, Int.reducePow, Nat.reducePow, Bool.not_false]) | (refine wk_intro (by kernel_rfl) ?_) | (refine vp_draw (id := 3) (l := []) (by kernel_rfl) ?_) | (refine vp_draw (id := 7) (l := []) (by kernel_rfl) ?_) | (refine vp_draw (id := 8) (l := []) (by kernel_rfl) ?_) | (refine vf_of (by first | exact nm | exact io | exact zr | exact i0 | exact o) ?_))
set_option maxHeartbeats 1000000 in
theorem incg_P (hv : RatA v x 7) (h0 : 0 < x) (h64 : x ≤ 64) (hn : 1 ≤ n) (hn2 : n ≤ 30) (hpI : (pI ≤ 0 ∧ P = 0) ∨ pI = (P : Int)) (hP : P ≤ 96) :
    ∃ l h lo hi : Rat, Go.Ev.Fn CX 16 [.int .i64 (n : Int), v, .int .i64 pI] (.tup [ballR l h, .bool true]) ∧ l ≤ h ∧ szR l 400 ∧ szR h 400 ∧ (h - l) * p2 P ≤ 1 ∧ 0 ≤ lo ∧ lo ≤ hi ∧ lo * lo ≤ x ∧ x ≤ hi * hi ∧
      ∀ s, lo ≤ s → s ≤ hi → ∃ L0, ∀ L, L0 ≤ L → l ≤ igV n s x L ∧ igV n s x L ≤ h := by
  obtain ⟨w, hwP, hw1, hw2⟩ : ∃ w : Nat, w = P + 128 ∧ 128 ≤ w ∧ w < 225 := ⟨_, rfl, by omega, by omega⟩
  have zx := szR_of hv (by omega)
  have zn := szR_neg zx
  have nm := rat_Norm hv (by omega)
  have io := incg_in (nI := (n : Int)) zx (Rat.le_of_lt h0) h64 (by omega) (by omega)
  have zr := rat_Zero (RatA_rv zx) (by omega) (by omega)
  rw [decide_eq_false (show ¬ x = 0 by grind)] at zr
  have ng := rat_Neg (RatA_rv zx) (by omega) (by omega)
  have nx : -x < 0 := by grind
  obtain ⟨m, lm, fe, s2, hs2⟩ := exps_Exp (P := w) (pI := (w : Int)) (RatA_rv zn) (by omega) (by omega) (show -x ≠ 0 by grind) (by grind) (by grind) (den_le zn (by omega)) (by omega) (.inr rfl)
  obtain ⟨A, B, lo, hi, fp, p1, p2', p3, l0, lh, l1, l2, pe⟩ := incg_power (w := w) zx (Rat.le_of_lt h0) h64 hn hn2 (by omega) (by omega)
  have er : rv x = ratV false (lim x.num.natAbs) (lim x.den) := ervP (Rat.le_of_lt h0)
  have hN : x.num.natAbs ≤ 64 * x.den := by
    have d := Ex.denR x
    have e : ((x.num.natAbs : Nat) : Rat) = (x.num : Rat) := by rw [← castZn, num_abs (Rat.le_of_lt h0)]
    have dR : (0 : Rat) < (x.den : Rat) := by exact_mod_cast x.den_pos
    have m := Rat.mul_le_mul_of_nonneg_right h64 (Rat.le_of_lt dR)
    rw [d, ← e] at m
    have : ((x.num.natAbs : Nat) : Rat) ≤ ((64 * x.den : Nat) : Rat) := by rw [Ex.castmul]; exact m
    exact_mod_cast this
  have hx : x * (x.den : Rat) = ((x.num.natAbs : Nat) : Rat) := by rw [Ex.denR x, ← castZn, num_abs (Rat.le_of_lt h0)]
  obtain ⟨R1, R2, fr, r1, rB, r2, r3, re⟩ := incg_row (N := x.num.natAbs) (D := x.den) (w := w) (n := n) hn hn2 x.den_pos hN (Nat.le_trans zx.1 (by omega)) (Nat.le_trans zx.2 (by omega)) (by omega) (by omega)
  have fr' := fr false
  rw [← er] at fr'
  obtain ⟨s1, hs1⟩ := re x hx
  have Pw := p2_pos w
  have hm : m ≤ 2 ^ w := by
    have e := (hs2 (s2 + 1) (by omega)).1
    have k := Rat.le_trans e (Rat.mul_le_mul_of_nonneg_right (ev_le1 (z := -x) nx (show 1 ≤ s2 + 1 by omega)).1 (Rat.le_of_lt Pw))
    rw [Rat.one_mul] at k
    exact_mod_cast k
  have P8 : 2 ^ 8 ≤ 2 ^ w := Nat.pow_le_pow_right (by omega) (by omega)
  have e2 : 2 ^ (w + 2) = 2 ^ w * 4 := Nat.pow_add _ _ _
  have lp := lim_len_pw (n := 2 ^ w) (w := w + 2) (by omega)
  have lm2 := lim_len_pw (n := m + 1) (w := w + 2) (by omega)
  have lm1 := lim_len_mono (show m ≤ m + 1 by omega)
  have lm3 := lim_len_pw (n := m + 1 + 1) (w := w + 2) (by omega)
  have fb := fix_Ball (w := w) (lo := mkRat (m : Int) (2 ^ w)) (hi := mkRat ((m + 1 : Nat) : Int) (2 ^ w)) (L := 200) (szR_nat (by omega) (by omega) (by omega)) (szR_nat (by omega) (by omega) (by omega)) (by omega) (by omega)
  rw [unN_mk, unN_mk] at fb
  obtain ⟨g1, g2, g3⟩ := ig_at hn hn2
  obtain ⟨u1, u2, u3⟩ := mulS (w := w) p1 r1 p2' r2 p3 r3
  obtain ⟨y1, y2, y3⟩ := mulS (w := w) (β := 2) (δ := 2) u1 (show m ≤ m + 1 + 1 by omega) u2 (show m + 1 + 1 ≤ 2 * 2 ^ w by omega) u3 (show m + 1 + 1 ≤ m + 2 by omega)
  have ve : ∀ s, lo ≤ s → s ≤ hi → ∃ L0, ∀ L, L0 ≤ L → Enc w (A * R1 / 2 ^ w * m / 2 ^ w) ((B * R2 / 2 ^ w + 1) * (m + 1 + 1) / 2 ^ w + 1) (igV n s x L) := by
    intro s q1 q2
    refine ⟨s1 + s2, fun L hL => ?_⟩
    exact enc_mul (enc_mul (pe s q1 q2) (hs1 L (by omega))) (enc_wider (n := 1) (hs2 L (by omega)))
  clear pe hs1 hs2 re fr g2 g3 hx hN
  have K : (igP n).1 * ((igR n).1 + 1) + 1 ≤ 2 ^ 119 := by omega
  have tw : ∀ k z Z, z ≤ 2 ^ k → Z ≤ z * 2 ^ w → Z ≤ 2 ^ (w + k) := by
    intro k z Z hz hZ
    rw [Nat.add_comm w, Nat.pow_add]
    exact Nat.le_trans hZ (Nat.mul_le_mul_right _ hz)
  have lA : (igP n).1 ≤ 2 ^ 119 := by
    have := Nat.le_mul_of_pos_right (igP n).1 (show 0 < (igR n).1 + 1 by omega)
    omega
  have bB := tw 119 _ _ lA p2'
  have uB := tw 119 _ _ K u2
  have sB := tw 121 _ _ (by omega) y2
  have up : ∀ k, k ≤ 121 → 2 ^ (w + k) < 2 ^ (w + 122) := fun k hk => Nat.pow_lt_pow_right (by omega) (by omega)
  have gap : (B * R2 / 2 ^ w + 1) * (m + 1 + 1) / 2 ^ w + 1 ≤ A * R1 / 2 ^ w * m / 2 ^ w + 2 ^ (w - (P + 2)) := by
    have : 2 ^ 120 ≤ 2 ^ (w - (P + 2)) := Nat.pow_le_pow_right (by omega) (by omega)
    omega
  have lB := lim_len_pw (Nat.lt_of_le_of_lt bB (up 119 (by omega)))
  have lA' := lim_len_mono p1
  have lR := lim_len_pw rB
  have lR1 := lim_len_mono r1
  have lU := lim_len_pw (Nat.lt_of_le_of_lt uB (up 119 (by omega)))
  have lU1 := lim_len_mono u1
  have m1 := fix_Mul (a := A) (b := B) (c := R1) (d := R2) (w := w) (by omega) (by omega) (by omega) (by omega) (by omega) (by omega)
  have m2 := fix_Mul (a := A * R1 / 2 ^ w) (b := B * R2 / 2 ^ w + 1) (c := m) (d := m + 1 + 1) (w := w) (by omega) (by omega) (by omega) (by omega) (by omega) (by omega)
  have sS : (B * R2 / 2 ^ w + 1) * (m + 1 + 1) / 2 ^ w + 1 < 2 ^ (w + 10040) := Nat.lt_of_lt_of_le (Nat.lt_of_le_of_lt sB (up 121 (by omega))) (Nat.pow_le_pow_right (by omega) (by omega))
  obtain ⟨l, h, t1, -, t3, t4, t5, t6, ft⟩ := told_span (p := P + 2) y1 sS (by omega) (by omega)
  have thin := told_thin (p := P) (by omega) gap
  rw [← t5, ← t6] at thin
  refine ⟨l, h, lo, hi, ?_, t1, t3, t4, thin, l0, lh, l1, l2, fun s q1 q2 => ?_⟩
  rotate_left
  · obtain ⟨L0, hL⟩ := ve s q1 q2
    refine ⟨L0, fun L h => ?_⟩
    have := told_in (q := P + 2) (by omega) (hL L h)
    rw [← t5, ← t6] at this
    exact this
  have x1 : (if (0 : Int) > pI then (0 : Int) else pI) = (P : Int) := by split <;> omega
  have x2 : (if (200 : Int) < (P : Int) then (200 : Int) else (P : Int)) = (P : Int) := if_neg (by omega)
  clear ve thin t1 t3 t4 t5 t6 sS gap lB lA' lR lR1 lU lU1 up sB uB bB lA tw K y1 y2 y3 u1 u2 u3 g1 l0 lh l1 l2 p1 p2' p3 r1 r2 r3 rB lp lm lm1 lm2 lm3 P8 e2 hm h0 h64 zn hpI nx
  rw [er] at nm io zr ng fp fr'
  rw [show ((w : Nat) : Int) = (P : Int) + 128 by omega] at fp fr' fe fb m1 m2 ft
  rw [show ((P + 2 : Nat) : Int) = (P : Int) + 2 from rfl] at ft
  generalize mkRat (m : Int) (2 ^ w) = q1 at *
  generalize mkRat ((m + 1 : Nat) : Int) (2 ^ w) = q2 at *
  generalize A * R1 / 2 ^ w * m / 2 ^ w = S1 at *
  generalize (B * R2 / 2 ^ w + 1) * (m + 1 + 1) / 2 ^ w + 1 = S2 at *
  generalize A * R1 / 2 ^ w = U1 at *
  generalize B * R2 / 2 ^ w + 1 = U2 at *
  generalize m + 1 + 1 = m2' at *
  generalize -x = nx at *
  obtain ⟨s0, n0, d0, rfl, -⟩ := hv
  refine Go.Ev.Fn.intro (fn := Tryz.f16) (body := (Tryz.f16).body.get!) (by kernel_rfl) (by kernel_rfl) (by kernel_rfl) (fun _ => rfl) (Nat.le_of_ble_eq_true (by kernel_rfl)) ?_; unfold Tryz.f16; simp only [Option.get!_some]
  repeat (first | (simp only [go_sem, Nat.reduceEqDiff, Nat.reduceAdd, Nat.reduceSub, Nat.reduceMul, Nat.reduceLeDiff, Nat.reduceLT, reduceIte, reduceCtorEq, Nat.succ_ne_zero, elemsC, Int.reduceToNat, Nat.reducePow, x1, x2, Bool.not_false]) | (simp (disch := (first | omega | (simp only [AL, List.length_map]; omega))) only [AR, AL, ifT, ifF, take_all, List.length_cons, List.length_nil, Int.reduceToNat, Int.reducePow, Nat.reducePow, x1, x2, Bool.not_false]) | (refine wk_intro (by kernel_rfl) ?_) | (refine vp_draw (id := 3) (l := []) (by kernel_rfl) ?_) | (refine vp_draw (id := 7) (l := []) (by kernel_rfl) ?_) | (refine vp_draw (id := 8) (l := []) (by kernel_rfl) ?_) | (refine vf_of (by first | exact nm | exact io | exact zr | exact ng | exact fe | exact fp | exact fr' | exact m1 | exact fb | exact m2 | exact ft) ?_))
theorem incg_Q {nI : Int} {l h : Rat} (hv : RatA v x 7) (zl : szR l 400) (zh : szR h 400) (f : Go.Ev.Fn CX 16 [.int .i64 nI, v, .int .i64 pI] (.tup [ballR l h, .bool true])) : Go.Ev.Fn CX 20 [.int .i64 nI, v, .int .i64 pI] (.tup [ballR (1 - h) (1 - l), .bool true]) := by
  have i1 := rat_Int 1 (by omega)
  have o := ball_Of (RatA_rv (int_szR (n := 1) (by omega))) (by omega)
  have z1 : szR ((1 : Int) : Rat) 400 := szR_mono (int_szR (n := 1) (by omega)) (by omega)
  have b := ball_Sub (L := 400) z1 z1 zl zh (by omega) (by omega)
  rw [show ((1 : Int) : Rat) = 1 from rfl] at i1 o b
  generalize 1 - h = y1 at *
  generalize 1 - l = y2 at *
  obtain ⟨s0, n0, d0, rfl, -⟩ := hv
  refine Go.Ev.Fn.intro (fn := Tryz.f20) (body := (Tryz.f20).body.get!) (by kernel_rfl) (by kernel_rfl) (by kernel_rfl) (fun _ => rfl) (Nat.le_of_ble_eq_true (by kernel_rfl)) ?_; unfold Tryz.f20; simp only [Option.get!_some]
  repeat (first | (simp only [go_sem, Nat.reduceEqDiff, Nat.reduceAdd, Nat.reduceSub, Nat.reduceMul, Nat.reduceLeDiff, Nat.reduceLT, reduceIte, reduceCtorEq, Nat.succ_ne_zero, elemsC, Int.reduceToNat, Nat.reducePow, Bool.not_true]) | (simp (disch := (first | omega | (simp only [AL, List.length_map]; omega))) only [AR, AL, ifT, ifF, take_all, List.length_cons, List.length_nil, Int.reduceToNat, Int.reducePow, Nat.reducePow, Bool.not_true]) | (refine wk_intro (by kernel_rfl) ?_) | (refine vp_draw (id := 4) (l := []) (by kernel_rfl) ?_) | (refine vf_of (by first | exact f | exact i1 | exact o | exact b) ?_))
end
end Go.Proofs.YtemnjalaincijaaGreat
namespace Go.Proofs.YtemnjalaincijaaGreat
open Go.Ev
theorem enc_oftenN {w a b : Nat} {q : Rat} (h : Enc w a b q) : Enc w (a * 2) (b * 2) (q * 2) := by
  obtain ⟨h1, h2⟩ := h
  unfold Enc
  rw [Ex.castmul, Ex.castmul, show ((2 : Nat) : Rat) = 2 from rfl]
  constructor <;> grind
section
variable {v : SV} {x : Rat} {w n : Nat}
end
end Go.Proofs.YtemnjalaincijaaGreat
namespace Go.Proofs.YtemnjalaincijaaGreat
open Go.Ev
section
variable {x : Rat} {A B w : Nat}
end
end Go.Proofs.YtemnjalaincijaaGreat
namespace Go.Proofs.YtemnjalaincijaaGreat
open Go.Ev
def trm (x y : Rat) (n i : Nat) : Rat := ((cc (n - i) i : Nat) : Rat) * pwR x (n - i) * pwR y i
def sS (x y : Rat) (n : Nat) : Nat → Rat
  | 0 => 0
  | j + 1 => sS x y n j + trm x y n j
theorem cm (a b : Nat) : ((a * b : Nat) : Rat) = (a : Rat) * (b : Rat) := by exact_mod_cast rfl
section
variable {x y : Rat} {B : Nat}
end
end Go.Proofs.YtemnjalaincijaaGreat
namespace Go.Proofs.YtemnjalaincijaaGreat
open Go.Ev
section
variable {x y : Rat}
end
section
variable {x : Rat} {A B w : Nat}
end
end Go.Proofs.YtemnjalaincijaaGreat
namespace Go.Proofs.YtemnjalaincijaaGreat
open Go.Ev
theorem neg_num {x : Rat} : decide (x.num < 0) = decide (x < 0) := by
  have h := Rat.num_nonneg (q := x)
  refine decide_eq_decide.2 ⟨fun g => ?_, fun g => ?_⟩
  · have : ¬ 0 ≤ x := fun k => absurd (h.2 k) (by omega)
    grind
  · rcases Int.lt_or_le x.num 0 with k | k
    · exact k
    · exact absurd (h.1 k) (by grind)
section
variable {v : SV} {x : Rat} {A B p L : Nat}
theorem erv {x : Rat} (h : decide (x.num < 0) = false) : rv x = ratV false (lim x.num.natAbs) (lim x.den) := by show ratV (decide (x.num < 0)) _ _ = _; rw [h]
end
end Go.Proofs.YtemnjalaincijaaGreat
namespace Go.Proofs.YtemnjalaincijaaGreat
open Go.Ev
section
variable {v : SV} {x : Rat} {a b p L : Nat}
end
end Go.Proofs.YtemnjalaincijaaGreat
namespace Go.Proofs.YtemnjalaincijaaGreat
open Go.Ev
end Go.Proofs.YtemnjalaincijaaGreat
namespace Go.Proofs.YtemnjalaincijaaGreat
open Go.Ev
theorem ref10_Hold {p : Nat} (hp : p ≤ 200) : Go.Ev.Fn CX 67 [.int .i64 (p : Int)] (.int .i64 (p : Int)) := by
  have e1 : (if (0 : Int) > (p : Int) then (0 : Int) else (p : Int)) = (p : Int) := if_neg (by omega)
  have e2 : (if (200 : Int) < (p : Int) then (200 : Int) else (p : Int)) = (p : Int) := if_neg (by omega)
  refine Go.Ev.Fn.intro (fn := Tryz.f67) (body := (Tryz.f67).body.get!) (by kernel_rfl) (by kernel_rfl) (by kernel_rfl) (fun _ => rfl) (Nat.le_of_ble_eq_true (by kernel_rfl)) ?_; unfold Tryz.f67; simp only [Option.get!_some]
  repeat (first | (simp only [go_sem, Nat.reduceEqDiff, Nat.reduceAdd, Nat.reduceSub, Nat.reduceMul, Nat.reduceLeDiff, Nat.reduceLT, reduceIte, reduceCtorEq, Nat.succ_ne_zero, elemsC, Int.reduceToNat, Nat.reducePow, e1, e2]) | (simp (disch := (first | omega | (simp only [AL, List.length_map]; omega))) only [AR, AL, ifT, ifF, take_all, List.length_cons, List.length_nil, Int.reduceToNat, Int.reducePow, Nat.reducePow, e1, e2]) | (refine wk_intro (by kernel_rfl) ?_))
section
variable {v : SV} {x : Rat} {L a b p : Nat}
theorem half_len : szR (mkRat 1 2) 1 := ⟨lim_len_lt (by decide +kernel), lim_len_lt (by decide +kernel)⟩
end
end Go.Proofs.YtemnjalaincijaaGreat
namespace Go.Proofs.YtemnjalaincijaaGreat
open Go.Ev
section
variable {v : SV} {x : Rat} {w n : Nat}
end
end Go.Proofs.YtemnjalaincijaaGreat
namespace Go.Proofs.YtemnjalaincijaaGreat
open Go.Ev
theorem ref4_AddE {a b c d : Rat} {L M : Nat} (ha : szR a L) (hb : szR b L) (hc : szR c M) (hd : szR d M) (hL1 : 1 ≤ L) (hM1 : 1 ≤ M) (hL : L + M ≤ 100000) : Go.Ev.Fn CX 27 [ballR a b, ballR c d] (ballR (a + c) (b + d)) := by
  have s1 := ref2_Add (RatA_rv ha) (RatA_rv hc) hL1 hM1 (by omega)
  have s2 := ref2_Add (RatA_rv hb) (RatA_rv hd) hL1 hM1 (by omega)
  generalize a + c = x at *
  generalize b + d = y at *
  refine Go.Ev.Fn.intro (fn := Tryz.f27) (body := (Tryz.f27).body.get!) (by kernel_rfl) (by kernel_rfl) (by kernel_rfl) (fun _ => rfl) (Nat.le_of_ble_eq_true (by kernel_rfl)) ?_; unfold Tryz.f27; simp only [Option.get!_some]
  repeat (first | (simp only [go_sem, Nat.reduceEqDiff, Nat.reduceAdd, Nat.reduceSub, Nat.reduceMul, Nat.reduceLeDiff, Nat.reduceLT, reduceIte, reduceCtorEq, Nat.succ_ne_zero, elemsC, Int.reduceToNat, Nat.reducePow]) | (simp (disch := (first | omega | (simp only [AL, List.length_map]; omega))) only [AR, AL, ifT, ifF, take_all, List.length_cons, List.length_nil, Int.reduceToNat, Int.reducePow, Nat.reducePow]) | (refine wk_intro (by kernel_rfl) ?_) | (refine vp_draw (id := 1) (l := []) (by kernel_rfl) ?_) | (refine vf_of (by first | exact s1 | exact s2) ?_))
theorem wf_int64E {n : Int} (h : (Lit.int .i64 n).wf = true) : -9223372036854775808 ≤ n ∧ n < 9223372036854775808 := by
  have h' : decide (IntKind.i64.min ≤ n ∧ n ≤ IntKind.i64.max) = true := by simpa [Lit.wf] using h
  have := of_decide_eq_true h'
  simp only [show IntKind.i64.min = -9223372036854775808 from rfl, show IntKind.i64.max = 9223372036854775807 from rfl] at this
  omega
theorem ref10_Far {v : SV} {z : Rat} {L : Nat} (hv : RatA v z L) (hL1 : 1 ≤ L) (hL : L ≤ 100) (h : z < -8 ∨ 8 < z) : Go.Ev.Fn CX 28 [v] (.bool true) := by
  have im := ref2_Int (-8) (by omega)
  have ip := ref2_Int 8 (by omega)
  have c1 := ref2_Cmp hv (RatA_rv (int_szR (n := -8) (by omega))) hL1 (by omega) (by omega)
  have c2 := ref2_Cmp hv (RatA_rv (int_szR (n := 8) (by omega))) hL1 (by omega) (by omega)
  by_cases g : z < -8
  · have e1 : decide (cmpR z ((-8 : Int) : Rat) < 0) = true := by rw [cmpR_lt]; exact decide_eq_true g
    clear h
    obtain ⟨s, n, d, rfl, -⟩ := hv
    generalize cmpR z ((-8 : Int) : Rat) = y1 at *
    refine Go.Ev.Fn.intro (fn := Tryz.f28) (body := (Tryz.f28).body.get!) (by kernel_rfl) (by kernel_rfl) (by kernel_rfl) (fun _ => rfl) (Nat.le_of_ble_eq_true (by kernel_rfl)) ?_; unfold Tryz.f28; simp only [Option.get!_some]
    repeat (first | (simp only [go_sem, Nat.reduceEqDiff, Nat.reduceAdd, Nat.reduceSub, Nat.reduceMul, Nat.reduceLeDiff, Nat.reduceLT, reduceIte, reduceCtorEq, Nat.succ_ne_zero, elemsC, Int.reduceToNat, Nat.reducePow, e1]) | (simp (disch := (first | omega | (simp only [AL, List.length_map]; omega))) only [AR, AL, ifT, ifF, take_all, List.length_cons, List.length_nil, Int.reduceToNat, Int.reducePow, Nat.reducePow, e1]) | (refine wk_intro (by kernel_rfl) ?_) | (refine vp_draw (id := 1) (l := []) (by kernel_rfl) ?_) | (refine vf_of (by first | exact im | exact c1) ?_))
  · have e1 : decide (cmpR z ((-8 : Int) : Rat) < 0) = false := by rw [cmpR_lt]; exact decide_eq_false g
    have e2 : decide (cmpR z ((8 : Int) : Rat) > 0) = true := by rw [cmpR_gt]; exact decide_eq_true (h.resolve_left g)
    clear h
    obtain ⟨s, n, d, rfl, -⟩ := hv
    generalize cmpR z ((-8 : Int) : Rat) = y1 at *
    generalize cmpR z ((8 : Int) : Rat) = y2 at *
    refine Go.Ev.Fn.intro (fn := Tryz.f28) (body := (Tryz.f28).body.get!) (by kernel_rfl) (by kernel_rfl) (by kernel_rfl) (fun _ => rfl) (Nat.le_of_ble_eq_true (by kernel_rfl)) ?_; unfold Tryz.f28; simp only [Option.get!_some]
    repeat (first | (simp only [go_sem, Nat.reduceEqDiff, Nat.reduceAdd, Nat.reduceSub, Nat.reduceMul, Nat.reduceLeDiff, Nat.reduceLT, reduceIte, reduceCtorEq, Nat.succ_ne_zero, elemsC, Int.reduceToNat, Nat.reducePow, e1, e2]) | (simp (disch := (first | omega | (simp only [AL, List.length_map]; omega))) only [AR, AL, ifT, ifF, take_all, List.length_cons, List.length_nil, Int.reduceToNat, Int.reducePow, Nat.reducePow, e1, e2]) | (refine wk_intro (by kernel_rfl) ?_) | (refine vp_draw (id := 1) (l := []) (by kernel_rfl) ?_) | (refine vf_of (by first | exact im | exact c1 | exact ip | exact c2) ?_))
theorem half_mk : mkRat 1 2 = (1 / 2 : Rat) := by decide +kernel
section
variable {z : Rat} {p : Int} {s : Bool} {n d : List Nat}
end
end Go.Proofs.YtemnjalaincijaaGreat
namespace Go.Proofs.YtemnjalaincijaaGreat
open Go.Ev
theorem mk_in {w A B : Nat} {V : Rat} (h : Enc w A B V) : mkRat (A : Int) (2 ^ w) ≤ V ∧ V ≤ mkRat (B : Int) (2 ^ w) := by
  have P := p2_pos w
  exact ⟨le_by P (by rw [mk_p2]; exact h.1), le_by P (by rw [mk_p2]; exact h.2)⟩
theorem lim_len_p2k {n w : Nat} (h : n ≤ 2 ^ w) : (lim n).length ≤ w / 32 + 2 := by
  have := lim_len_pw (n := n) (w := w + 1) (Nat.lt_of_le_of_lt h (Nat.pow_lt_pow_right (by omega) (by omega)))
  omega
section
variable {v : SV} {x : Rat} {w n p : Nat}
theorem ref4_NegI {a b : Rat} {L : Nat} (ha : szR a L) (hb : szR b L) (hL1 : 1 ≤ L) (hL : L ≤ 100000) : Go.Ev.Fn CX 48 [ballR a b] (ballR (-b) (-a)) := by
  have n1 := ref2_Neg (RatA_rv ha) hL1 (by omega)
  have n2 := ref2_Neg (RatA_rv hb) hL1 (by omega)
  generalize -a = u at *
  generalize -b = w at *
  refine Go.Ev.Fn.intro (fn := Tryz.f48) (body := (Tryz.f48).body.get!) (by kernel_rfl) (by kernel_rfl) (by kernel_rfl) (fun _ => rfl) (Nat.le_of_ble_eq_true (by kernel_rfl)) ?_; unfold Tryz.f48; simp only [Option.get!_some]
  repeat (first | (simp only [go_sem, Nat.reduceEqDiff, Nat.reduceAdd, Nat.reduceSub, Nat.reduceMul, Nat.reduceLeDiff, Nat.reduceLT, reduceIte, reduceCtorEq, Nat.succ_ne_zero, elemsC, Int.reduceToNat, Nat.reducePow]) | (simp (disch := (first | omega | (simp only [AL, List.length_map]; omega))) only [AR, AL, ifT, ifF, take_all, List.length_cons, List.length_nil, Int.reduceToNat, Int.reducePow, Nat.reducePow]) | (refine wk_intro (by kernel_rfl) ?_) | (refine vp_draw (id := 1) (l := []) (by kernel_rfl) ?_) | (refine vf_of (by first | exact n2 | exact n1) ?_))
theorem ref4_SubI {a b c d : Rat} {L M : Nat} (ha : szR a L) (hb : szR b L) (hc : szR c M) (hd : szR d M) (hL1 : 1 ≤ L) (hM1 : 1 ≤ M) (hL : L + M ≤ 100000) : Go.Ev.Fn CX 70 [ballR a b, ballR c d] (ballR (a - d) (b - c)) := by
  have s1 := ref4_NegI hc hd hM1 (by omega)
  have s2 := ref4_AddE ha hb (szR_neg hd) (szR_neg hc) hL1 hM1 hL
  rw [← Rat.sub_eq_add_neg, ← Rat.sub_eq_add_neg] at s2
  generalize a - d = x at *
  generalize b - c = y at *
  generalize -c = u at *
  generalize -d = w at *
  refine Go.Ev.Fn.intro (fn := Tryz.f70) (body := (Tryz.f70).body.get!) (by kernel_rfl) (by kernel_rfl) (by kernel_rfl) (fun _ => rfl) (Nat.le_of_ble_eq_true (by kernel_rfl)) ?_; unfold Tryz.f70; simp only [Option.get!_some]
  repeat (first | (simp only [go_sem, Nat.reduceEqDiff, Nat.reduceAdd, Nat.reduceSub, Nat.reduceMul, Nat.reduceLeDiff, Nat.reduceLT, reduceIte, reduceCtorEq, Nat.succ_ne_zero, elemsC, Int.reduceToNat, Nat.reducePow]) | (simp (disch := (first | omega | (simp only [AL, List.length_map]; omega))) only [AR, AL, ifT, ifF, take_all, List.length_cons, List.length_nil, Int.reduceToNat, Int.reducePow, Nat.reducePow]) | (refine wk_intro (by kernel_rfl) ?_) | (refine vp_draw (id := 1) (l := []) (by kernel_rfl) ?_) | (refine vf_of (by first | exact s1 | exact s2) ?_))
end
end Go.Proofs.YtemnjalaincijaaGreat
namespace Go.Proofs.YtemnjalaincijaaGreat
open Go.Ev
def sLo (neg : Bool) (a b : Nat) : Int := if neg then -(b : Int) else (a : Int)
def sHi (neg : Bool) (a b : Nat) : Int := if neg then -(a : Int) else (b : Int)
abbrev ivS (neg : Bool) (a b : Nat) : SV := ivV (sLo neg a b) (sHi neg a b)
theorem sLo_abs (neg : Bool) {a b : Nat} (h : a ≤ b) : (sLo neg a b).natAbs ≤ b := by
  unfold sLo
  cases neg
  · rw [if_neg (by decide), Int.natAbs_natCast]; exact h
  · rw [if_pos rfl, Int.natAbs_neg, Int.natAbs_natCast]; exact Nat.le_refl _
theorem sHi_abs (neg : Bool) {a b : Nat} (h : a ≤ b) : (sHi neg a b).natAbs ≤ b := by
  unfold sHi
  cases neg
  · rw [if_neg (by decide), Int.natAbs_natCast]; exact Nat.le_refl _
  · rw [if_pos rfl, Int.natAbs_neg, Int.natAbs_natCast]; exact h
theorem loQ_left {a b c d : Nat} (h1 : a ≤ b) (h2 : c ≤ d) : loQ (-(b : Int)) (-(a : Int)) c d = -((b * d : Nat) : Int) ∧ hiQ (-(b : Int)) (-(a : Int)) c d = -((a * c : Nat) : Int) := by
  have e1 : a * c ≤ a * d := Nat.mul_le_mul_left _ h2
  have e2 : a * c ≤ b * c := Nat.mul_le_mul_right _ h1
  have e3 : b * c ≤ b * d := Nat.mul_le_mul_left _ h2
  have e4 : a * d ≤ b * d := Nat.mul_le_mul_right _ h1
  unfold loQ loP hiQ hiP mnZ mxZ
  rw [Int.neg_mul, Int.neg_mul, Int.neg_mul, Int.neg_mul, ← Int.natCast_mul, ← Int.natCast_mul, ← Int.natCast_mul, ← Int.natCast_mul]
  generalize a * c = x1 at *
  generalize a * d = x2 at *
  generalize b * c = x3 at *
  generalize b * d = x4 at *
  constructor <;> (repeat' split) <;> omega
theorem ref4_ProdS {neg : Bool} {a b c d w : Nat} (h1 : a ≤ b) (h2 : c ≤ d) (hb : (lim b).length ≤ 10000) (hd : (lim d).length ≤ 10000) (hw : w ≤ 4096) (h0 : 0 < w) :
    Go.Ev.Fn CX 109 [ivS neg a b, ivN c d, .int .i64 (w : Int)] (ivS neg (a * c / 2 ^ w) (cdv (b * d) (2 ^ w))) := by
  have P : 0 < 2 ^ w := Nat.pow_pos (by omega)
  cases neg with
  | false =>
    have h := ref4_ProdN h1 h2 hb hd hw h0
    rw [← ivN_eq, ← ivN_eq, ← ivN_eq] at h
    rw [← ivN_eq]
    exact h
  | true =>
    have la := lim_len_mono h1
    have lc := lim_len_mono h2
    have h := ref4_Prod (a := -(b : Int)) (b := -(a : Int)) (c := (c : Int)) (d := (d : Int)) (w := w) (by rw [Int.natAbs_neg, Int.natAbs_natCast]; omega) (by rw [Int.natAbs_neg, Int.natAbs_natCast]; omega) (by rw [Int.natAbs_natCast]; omega) (by rw [Int.natAbs_natCast]; omega) hw h0
    rw [(loQ_left h1 h2).1, (loQ_left h1 h2).2, divZ_neg P, cdZ_neg] at h
    rw [← ivN_eq]
    exact h
theorem ref4_BackS {neg : Bool} {a b n : Nat} (h1 : a ≤ b) (hb : (lim b).length ≤ 10000) (hn : n ≤ 4096) (h0 : 0 < n) : Go.Ev.Fn CX 105 [ivS neg a b, .int .i64 (n : Int)] (ivS neg (a / 2 ^ n) (cdv b (2 ^ n))) := by
  have P : 0 < 2 ^ n := Nat.pow_pos (by omega)
  have la := lim_len_mono h1
  cases neg with
  | false =>
    have h := ref4_BackN (a := a) (b := b) (n := n) (by omega) (by omega) hn h0
    rw [← ivN_eq, ← ivN_eq] at h
    exact h
  | true =>
    have h := ref4_Back (a := -(b : Int)) (b := -(a : Int)) (by rw [Int.natAbs_neg, Int.natAbs_natCast]; omega) (by rw [Int.natAbs_neg, Int.natAbs_natCast]; omega) n hn h0
    rw [divZ_neg P, cdZ_neg] at h
    exact h
theorem ref4_NumS {neg : Bool} {v : SV} {y : Rat} {L w : Nat} (hv : RatA v (if neg then -y else y) L) (hL1 : 1 ≤ L) (hL : L ≤ 100000) (hw : w ≤ 4096) (h0 : 0 ≤ y) : Go.Ev.Fn CX 98 [v, .int .i64 (w : Int)] (ivS neg (unN y w) (upN y w)) := by
  cases neg with
  | false =>
    have h := ref4_NumN (show RatA v y L from hv) hL1 hL hw h0
    rw [← ivN_eq] at h
    exact h
  | true => exact ref4_NumNeg (show RatA v (-y) L from hv) hL1 hL hw h0
section
variable {v : SV} {x : Rat} {w n : Nat}
theorem ref10_half {L : Nat} (hv : RatA v x L) (hL1 : 1 ≤ L) (hL : L ≤ 1000) : Go.Ev.Fn CX 108 [v] (rv (x * mkRat 1 2)) := by
  have oh := ref2_Of false [1] [2] (by simp [okL]) (by simp [okL]) (by simp) (by simp)
  rw [show wth [1] = 1 from rfl, show wth [2] = 2 from rfl] at oh
  have oh' : Go.Ev.Fn CX 30 [.bool false, .sl 1 [.int .u32 1], .sl 1 [.int .u32 2]] (rv (mkRat 1 2)) := oh
  have mu := ref2_Mul hv (RatA_rv half_len) hL1 (by omega) (by omega)
  clear oh
  generalize x * mkRat 1 2 = y at *
  generalize mkRat 1 2 = h at *
  obtain ⟨s, N, D, rfl, -⟩ := hv
  refine Go.Ev.Fn.intro (fn := Tryz.f108) (body := (Tryz.f108).body.get!) (by kernel_rfl) (by kernel_rfl) (by kernel_rfl) (fun _ => rfl) (Nat.le_of_ble_eq_true (by kernel_rfl)) ?_; unfold Tryz.f108; simp only [Option.get!_some]
  repeat (first | (simp only [go_sem, Nat.reduceEqDiff, Nat.reduceAdd, Nat.reduceSub, Nat.reduceMul, Nat.reduceLeDiff, Nat.reduceLT, reduceIte, reduceCtorEq, Nat.succ_ne_zero, elemsC, Int.reduceToNat, Nat.reducePow]) | (simp (disch := (first | omega | (simp only [AL, List.length_map]; omega))) only [AR, AL, ifT, ifF, take_all, List.length_cons, List.length_nil, Int.reduceToNat, Int.reducePow, Nat.reducePow]) | (refine wk_intro (by kernel_rfl) ?_) | (refine vp_draw (id := 1) (l := [4, 5]) (by kernel_rfl) ?_) | (refine vf_of (by first | exact oh' | exact mu) ?_))
theorem ref10_root (hn : n = 1 ∨ n = 2) (hw0 : 50 ≤ w) (hw : w ≤ 360) :
    ∃ A B : Nat, ∃ r1 r2 : Rat, Go.Ev.Fn CX 104 [.int .i64 (n : Int), .int .i64 (w : Int)] (ivN A B) ∧ A ≤ B ∧ (lim B).length ≤ 60 ∧ 0 ≤ r1 ∧ 0 ≤ r2 ∧ r1 * r1 ≤ (n : Rat) * (SQ * SQ) ∧ (n : Rat) * (SQ * SQ) ≤ r2 * r2 ∧ ∀ r, r1 ≤ r → r ≤ r2 → Enc w A B (1 / r) := by
  obtain ⟨PL, PH, hpi, p1, p2', p3, p4, p5⟩ := iv_piB (W := w) hw0 hw
  have fp := ref8_PiIv (w := w) (by omega) hpi
  have P : 2 ^ 8 ≤ 2 ^ w := Nat.pow_le_pow_right (by omega) (by omega)
  have lPH := lim_len_p2 (n := PH) p5 (by omega)
  have lPL := lim_len_mono p4
  have q0 : 0 ≤ SQ * SQ := by decide +kernel
  obtain ⟨QL, QH, q1, q2, q3, eq, nn, of⟩ : ∃ QL QH : Nat, 2 ^ w ≤ QL ∧ QL ≤ QH ∧ QH ≤ 2 ^ (w + 4) ∧ Enc w QL QH ((n : Rat) * (SQ * SQ)) ∧ 0 ≤ (n : Rat) * (SQ * SQ) ∧ ((n = 1 ∧ QL = PL ∧ QH = PH) ∨ (n = 2 ∧ Go.Ev.Fn CX 103 [ivN PL PH, .int .i64 2] (ivN QL QH))) := by
    have e34 : 2 ^ (w + 4) = 2 ^ (w + 3) * 2 := Nat.pow_succ _ _
    rcases hn with rfl | rfl
    · refine ⟨PL, PH, p3, p4, by omega, ?_, ?_, .inl ⟨rfl, rfl, rfl⟩⟩
      · rw [show ((1 : Nat) : Rat) = 1 from rfl, Rat.one_mul]; exact ⟨p1, p2'⟩
      · exact Rat.mul_nonneg (nat_nonneg _) q0
    · have e := enc_oftenN (show Enc w PL PH (SQ * SQ) from ⟨p1, p2'⟩)
      refine ⟨PL * 2, PH * 2, by omega, by omega, by omega, ?_, Rat.mul_nonneg (nat_nonneg _) q0, .inr ⟨rfl, ref4_OftenN (n := 2) (by omega) (by omega) (by omega)⟩⟩
      rw [show ((2 : Nat) : Rat) = 2 from rfl, Rat.mul_comm]; exact e
  have lQH := lim_len_p2 (n := QH) q3 (by omega)
  have lQL := lim_len_mono q2
  obtain ⟨r1, r2, a0, a1, a2, a3, es⟩ := sqrt_pts nn eq
  have sq := ref4_SqrtN (a := QL) (b := QH) (w := w) (by omega) (by omega) (by omega)
  have q12 : rtN (QL * 2 ^ w) ≤ rtN (QH * 2 ^ w) + 1 := Nat.le_succ_of_le (rtN_mono (Nat.mul_le_mul_right _ q2))
  have rl : 2 ^ w ≤ rtN (QL * 2 ^ w) := by
    have h := rtN_mono (Nat.mul_le_mul_right (2 ^ w) q1)
    rw [← rtN_eq (a := 2 ^ w * 2 ^ w) (r := 2 ^ w) (Nat.le_refl _) (Nat.mul_lt_mul'' (by omega) (by omega))] at h
    exact h
  have lr : (lim (rtN (QH * 2 ^ w) + 1)).length ≤ 40 := by
    have a : QH * 2 ^ w ≤ 2 ^ (w + 4 + w) := by rw [Nat.pow_add _ (w + 4) w]; exact Nat.mul_le_mul_right _ q3
    have b := rtN_self (QH * 2 ^ w)
    refine lim_len_p2 (w := w + 4 + w + 1) ?_ (by omega)
    rw [Nat.pow_succ]
    have : 0 < 2 ^ (w + 4 + w) := Nat.pow_pos (by omega)
    omega
  have rp : 0 < rtN (QL * 2 ^ w) := by omega
  have iv := ref4_InvN (a := rtN (QL * 2 ^ w)) (b := rtN (QH * 2 ^ w) + 1) (w := w) rp q12 (by omega) (by omega)
  have i12 : 2 ^ (2 * w) / (rtN (QH * 2 ^ w) + 1) ≤ cdv (2 ^ (2 * w)) (rtN (QL * 2 ^ w)) := Nat.le_trans (Nat.div_le_div_left q12 rp) (div_le_cdv rp (Nat.le_refl _))
  have li := lim_len_p2 (n := cdv (2 ^ (2 * w)) (rtN (QL * 2 ^ w))) (w := 2 * w) (cdv_self _ rp) (by omega)
  refine ⟨_, _, r1, r2, ?_, i12, by omega, a0, a2, a1, a3, fun r g1 g2 => enc_invN rp (es r g1 g2)⟩
  clear es a0 a1 a2 a3 nn eq p1 p2' p3 p5 q1 q3 rl q0
  generalize 2 ^ (2 * w) / (rtN (QH * 2 ^ w) + 1) = I1 at *
  generalize cdv (2 ^ (2 * w)) (rtN (QL * 2 ^ w)) = I2 at *
  generalize rtN (QL * 2 ^ w) = R1 at *
  generalize rtN (QH * 2 ^ w) + 1 = R2 at *
  rcases of with ⟨rfl, rfl, rfl⟩ | ⟨rfl, of⟩
  · refine Go.Ev.Fn.intro (fn := Tryz.f104) (body := (Tryz.f104).body.get!) (by kernel_rfl) (by kernel_rfl) (by kernel_rfl) (fun _ => rfl) (Nat.le_of_ble_eq_true (by kernel_rfl)) ?_; unfold Tryz.f104; simp only [Option.get!_some]
    repeat (first | (simp only [go_sem, Nat.reduceEqDiff, Nat.reduceAdd, Nat.reduceSub, Nat.reduceMul, Nat.reduceLeDiff, Nat.reduceLT, reduceIte, reduceCtorEq, Nat.succ_ne_zero, elemsC, Int.reduceToNat, Nat.reducePow]) | (simp (disch := (first | omega | (simp only [AL, List.length_map]; omega))) only [AR, AL, ifT, ifF, take_all, List.length_cons, List.length_nil, Int.reduceToNat, Int.reducePow, Nat.reducePow]) | (refine wk_intro (by kernel_rfl) ?_) | (refine vf_of (by first | exact fp | exact sq | exact iv) ?_))
  · refine Go.Ev.Fn.intro (fn := Tryz.f104) (body := (Tryz.f104).body.get!) (by kernel_rfl) (by kernel_rfl) (by kernel_rfl) (fun _ => rfl) (Nat.le_of_ble_eq_true (by kernel_rfl)) ?_; unfold Tryz.f104; simp only [Option.get!_some]
    repeat (first | (simp only [go_sem, Nat.reduceEqDiff, Nat.reduceAdd, Nat.reduceSub, Nat.reduceMul, Nat.reduceLeDiff, Nat.reduceLT, reduceIte, reduceCtorEq, Nat.succ_ne_zero, elemsC, Int.reduceToNat, Nat.reducePow]) | (simp (disch := (first | omega | (simp only [AL, List.length_map]; omega))) only [AR, AL, ifT, ifF, take_all, List.length_cons, List.length_nil, Int.reduceToNat, Int.reducePow, Nat.reducePow]) | (refine wk_intro (by kernel_rfl) ?_) | (refine vf_of (by first | exact fp | exact of | exact sq | exact iv) ?_))
set_option maxHeartbeats 1000000 in
theorem ref10_row {L : Nat} (hv : RatA v x L) (hL1 : 1 ≤ L) (hL : L ≤ 50) (h0 : 0 ≤ x) (h128 : x ≤ 128) (hw0 : 40 ≤ w) (hw : w ≤ 900) :
    ∃ A B : Nat, Go.Ev.Fn CX 155 [v, .int .i64 (w : Int)] (ivN A B) ∧ A ≤ B ∧ (lim B).length ≤ 100 ∧ ∃ s0, ∀ L, s0 ≤ L → Enc w A B (sk x 3 L) := by
  have zx := szR_of hv hL1
  have nb := ref4_NumN (w := w) hv hL1 (by omega) (by omega) h0
  have n1 := ref4_NumN (w := w) (RatA_rv (one_szR')) (by omega) (by omega) (by omega) (show (0 : Rat) ≤ 1 by decide)
  have u1 : unN 1 w = 2 ^ w := by show 1 * 2 ^ w / 1 = _; rw [Nat.one_mul, Nat.div_one]
  have u2 : upN 1 w = 2 ^ w := by show cdv (1 * 2 ^ w) 1 = _; unfold cdv; rw [Nat.one_mul, Nat.div_one]; omega
  rw [u1, u2] at n1
  have i1 := ref2_Int 1 (by omega)
  rw [show ((1 : Int) : Rat) = 1 from rfl] at i1
  have en := num_enc h0 w
  have y12 := un_up (q := x) w
  have yT : upN x w ≤ 2 ^ w * 128 := upN_le (n := 128) (m := 1) h0 (by
    rw [show ((128 : Nat) : Rat) = 128 from rfl, show ((1 : Nat) : Rat) = 1 from rfl]; grind) (by omega) (by omega)
  have P8 : 2 ^ 8 ≤ 2 ^ w := Nat.pow_le_pow_right (by omega) (by omega)
  have ok := dInv_0 w 3
  obtain ⟨F, hF⟩ : ∃ F : Nat, F = 2100 := ⟨_, rfl⟩
  obtain ⟨A, B, hr, hAB, hB⟩ := dRow_end (y := x) (k0 := 3) yT y12 (by omega) h128 (by omega) (by omega) 127 F 0 3 _ _ _ _ ok (by omega) (by omega) (by omega)
  have e7 : 2 ^ (w + 8) = 2 ^ w * 256 := Nat.pow_add _ _ _
  have lB := lim_len_pw (n := B) (w := w + 909) (Nat.lt_of_le_of_lt hB (Nat.pow_lt_pow_right (by omega) (by omega)))
  have ly2 := lim_len_pw (n := upN x w) (w := w + 8) (by omega)
  refine ⟨A, B, ?_, hAB, by omega, dRow_enc (by omega) en F 0 _ _ _ _ A B hr sq_one (by show Enc w _ _ (0 + 1); rw [Rat.zero_add]; exact sq_one)⟩
  have lens := fun (i k t1 t2 s1 s2 : Nat) (hi : i ≤ F) (h : dInv w 3 i k t1 t2 s1 s2) => (show (lim t1).length ≤ 100 ∧ (lim t2).length ≤ 100 ∧ (lim s1).length ≤ 100 ∧ (lim s2).length ≤ 100 ∧ 8 ≤ s1 from by
    obtain ⟨q1, q2, q3, q4, q5, q6⟩ := h
    have up : 2 ^ (w + 7 * min i 128) < 2 ^ (w + 897) := Nat.pow_lt_pow_right (by omega) (by omega)
    have a := lim_len_pw (n := t2) (w := w + 897) (by omega)
    have b := lim_len_mono q2
    have s : (i + 1) * 2 ^ (w + 896) < 2 ^ (w + 909) := by
      rw [show w + 909 = 13 + (w + 896) by omega, Nat.pow_add 2 13]
      exact Nat.mul_lt_mul_of_pos_right (by omega) (Nat.pow_pos (by omega))
    have c := lim_len_pw (n := s2) (w := w + 909) (by omega)
    have d := lim_len_mono q5
    exact ⟨by omega, by omega, by omega, by omega, by omega⟩)
  have step := fun (i k t1 t2 s1 s2 : Nat) (h : dInv w 3 i k t1 t2 s1 s2) => dInv_step yT y12 (show 1 ≤ 3 by omega) h
  have w2 := ref4_Whole 2 (by omega)
  rw [show (2 : Int) = ((2 : Nat) : Int) from rfl, intN_eq] at w2
  have l2 : (lim 2).length ≤ 1 := lim_len_one (by decide)
  have j4 := ref2_Int 2 (by omega)
  have m4 := ref2_Mul hv (RatA_rv (int_szR (n := 2) (by omega))) hL1 (by omega) (by omega)
  have zm := szR_mul zx (int_szR (n := 2) (by omega)) hL1
  have e4 : x * ((2 : Int) : Rat) = x + x := by rw [show ((2 : Int) : Rat) = 2 from rfl]; exact dbl_two x
  rw [e4] at m4 zm
  obtain ⟨W1, hW1⟩ : ∃ W1 : Nat, W1 = 2 ^ w := ⟨_, rfl⟩
  rw [← hW1] at n1 ok hr
  have rnd : ∀ (k t1 t2 : Nat), 0 < k → k < 10000 → t1 ≤ t2 → (lim t2).length ≤ 100 → Go.Ev.Fn CX 109 [ivN t1 t2, ivN (unN x w) (upN x w), .int .i64 (w : Int)] (ivN (t1 * unN x w / 2 ^ w) (cdv (t2 * upN x w) (2 ^ w))) ∧
      Go.Ev.Fn CX 184 [ivN (t1 * unN x w / 2 ^ w) (cdv (t2 * upN x w) (2 ^ w)), .int .i64 (k : Int)] (ivN (t1 * unN x w / 2 ^ w / k) (cdv (cdv (t2 * upN x w) (2 ^ w)) k)) := by
    intro k t1 t2 hk hk2 ht lt
    have P : 0 < 2 ^ w := Nat.pow_pos (by omega)
    have z := lim_len_mul (a := t2) (b := upN x w)
    have z2 := lim_len_mono (cdv_self (t2 * upN x w) P)
    have v12 : t1 * unN x w / 2 ^ w ≤ cdv (t2 * upN x w) (2 ^ w) := div_le_cdv P (Nat.mul_le_mul ht y12)
    have z3 := lim_len_mono v12
    exact ⟨ref4_ProdN ht y12 (by omega) (by omega) (by omega) (by omega), ref4_ByN (by omega) (by omega) hk (by omega)⟩
  clear u1 u2 en hAB hB lB e7 P8 yT h0 h128
  generalize unN x w = y1 at *
  generalize upN x w = y2 at *
  obtain ⟨s0, n0, d0, rfl, -⟩ := hv
  refine Go.Ev.Fn.intro (fn := Tryz.f155) (body := (Tryz.f155).body.get!) (by kernel_rfl) (by kernel_rfl) (by kernel_rfl) (fun _ => rfl) (Nat.le_of_ble_eq_true (by kernel_rfl)) ?_; unfold Tryz.f155; simp only [Option.get!_some]
  repeat (first | (simp only [go_sem, Nat.reduceEqDiff, Nat.reduceAdd, Nat.reduceSub, Nat.reduceMul, Nat.reduceLeDiff, Nat.reduceLT, reduceIte, reduceCtorEq, Nat.succ_ne_zero, elemsC, Int.reduceToNat, Nat.reducePow]) | (simp (disch := (first | omega | (simp only [AL, List.length_map]; omega))) only [AR, AL, ifT, ifF, take_all, List.length_cons, List.length_nil, Int.reduceToNat, Int.reducePow, Nat.reducePow]) | (refine wk_intro (by kernel_rfl) ?_) | (refine vp_draw (id := 3) (l := []) (by kernel_rfl) ?_) | (refine vp_draw (id := 8) (l := []) (by kernel_rfl) ?_) | (refine vf_of (by first | exact nb | exact i1 | exact n1) ?_))
  refine vp_loop_inv (fun s => s.tmp 1 = .sv (.int .i64 (w : Int)) ∧ s.tmp 2 = .ptr 2 0 0 ∧ s.obj 2 0 = some [.bool s0, natV n0, natV d0] ∧ s.tmp 4 = .ptr 4 0 0 ∧ s.obj 4 0 = some [.bool false, .sl 0 [], .bool false, .sl 0 []] ∧
      s.tmp 5 = .ptr 5 0 0 ∧ s.obj 5 0 = some [.bool false, natV (lim y1), .bool false, natV (lim y2)] ∧ s.tmp 7 = .ptr 7 0 0 ∧ s.tmp 8 = .ptr 8 0 0 ∧
      ∃ f i t1 t2 s1 s2 : Nat, s.tmp 9 = .sv (.int .i64 ((i + 1 : Nat) : Int)) ∧ f + i = F ∧ dRow w y1 y2 x f (3 + 2 * i) t1 t2 s1 s2 = some (A, B) ∧ s.obj 7 0 = some [.bool false, natV (lim s1), .bool false, natV (lim s2)] ∧ s.obj 8 0 = some [.bool false, natV (lim t1), .bool false, natV (lim t2)] ∧ dInv w 3 i (3 + 2 * i) t1 t2 s1 s2)
    (fun s => match s.tmp 9 with | .sv (.int _ i) => F + 2 - i.toNat | _ => 0) ⟨rfl, rfl, rfl, rfl, rfl, rfl, rfl, rfl, rfl, F, 0, _, _, _, _, rfl, by omega, hr, rfl, rfl, ok⟩ ?_
  rintro s ⟨i1', i2', o2, i4, o4, i5, o5, i7, i8, f, i, t1, t2, s1, s2, i9, hfi, hgo, o7, o8, hok⟩
  obtain ⟨lt1, lt2, la1, la2, -⟩ := lens i _ t1 t2 s1 s2 (by omega) hok
  have st := step i _ t1 t2 s1 s2 hok
  cases f with
  | zero => simp only [dRow] at hgo; cases hgo
  | succ f =>
    obtain ⟨lu1, lu2, lb1, lb2, ge8⟩ := lens (i + 1) (3 + 2 * i + 2) _ _ _ _ (by omega) st
    obtain ⟨pr, by1⟩ := rnd (3 + 2 * i) t1 t2 (by omega) (by omega) hok.2.1 lt2
    have u12 := st.2.1
    rw [dRow] at hgo
    generalize t1 * y1 / 2 ^ w / (3 + 2 * i) = u1 at *
    generalize cdv (cdv (t2 * y2) (2 ^ w)) (3 + 2 * i) = u2 at *
    generalize t1 * y1 / 2 ^ w = v1 at *
    generalize cdv (t2 * y2) (2 ^ w) = v2' at *
    have sm := ref4_SumNN (a := s1) (b := s2) (c := u1) (d := u2) (by omega) (by omega) (by omega) (by omega)
    have mo := ref4_MostN (a := u1) (b := u2) u12 (by omega)
    have cc := ref4_CmpN (a := u2) (b := 2) (by omega) (by omega)
    have ec : decide (cmpZ ((u2 : Nat) : Int) ((2 : Nat) : Int) ≤ 0) = decide (u2 ≤ 2) := by rw [cmpZ_le]; exact decide_eq_decide.2 (by omega)
    generalize cmpZ ((u2 : Nat) : Int) ((2 : Nat) : Int) = z at *
    have j2 := ref2_Int ((3 + 2 * i + 2 : Nat) : Int) (by omega)
    have cm := ref2_Cmp (RatA_rv zm) (RatA_rv (int_szR (n := ((3 + 2 * i + 2 : Nat) : Int)) (by omega))) (by omega) (by omega) (by omega)
    have ex : decide (cmpR (x + x) (((3 + 2 * i + 2 : Nat) : Int) : Rat) ≤ 0) = decide (x + x ≤ ((3 + 2 * i + 2 : Nat) : Rat)) := cmpR_le
    generalize cmpR (x + x) (((3 + 2 * i + 2 : Nat) : Int) : Rat) = zc at *
    have wd := ref4_WideN (a := s1 + u1) (b := s2 + u2) (n := 8) (by omega) (by omega) ge8 (by omega)
    generalize hNI : ((3 + 2 * i + 2 : Nat) : Int) = NI at *
    generalize hNR : ((3 + 2 * i + 2 : Nat) : Rat) = NR at *
    generalize (NI : Rat) = NIR at *
    rw [← hNI, show ((3 + 2 * i + 2 : Nat) : Int) = 2 * ((i : Int) + 1) + 3 by omega] at j2
    rw [show ((3 + 2 * i : Nat) : Int) = 2 * ((i : Int) + 1) + 1 by omega] at by1
    rw [show ((i + 1 : Nat) : Int) = (i : Int) + 1 by omega] at i9
    generalize x + x = yy at *
    clear lens step rnd hr
    by_cases hu : u2 ≤ 2
    · rw [decide_eq_true hu] at ec
      by_cases hx : yy ≤ NR
      · rw [decide_eq_true hx] at ex
        rw [if_pos ⟨hu, hx⟩] at hgo
        simp only [Option.some.injEq, Prod.mk.injEq] at hgo
        rw [hgo.1, hgo.2] at wd
        clear hgo st hok
        repeat (first | (simp only [go_sem, Nat.reduceEqDiff, Nat.reduceAdd, Nat.reduceSub, Nat.reduceMul, Nat.reduceLeDiff, Nat.reduceLT, reduceIte, reduceCtorEq, Nat.succ_ne_zero, elemsC, Int.reduceToNat, Nat.reducePow, i1', i2', o2, i4, o4, i5, o5, i7, i8, i9, o7, o8, ec, ex]) | (simp (disch := (first | omega | (simp only [AL, List.length_map]; omega))) only [AR, AL, ifT, ifF, take_all, List.length_cons, List.length_nil, Int.reduceToNat, Int.reducePow, Nat.reducePow, i1', i2', o2, i4, o4, i5, o5, i7, i8, i9, o7, o8, ec, ex]) | (refine wk_intro (by kernel_rfl) ?_) | (refine vp_draw (id := 3) (l := []) (by kernel_rfl) ?_) | (refine vp_draw (id := 8) (l := []) (by kernel_rfl) ?_) | (refine vf_of (by first | exact pr | exact by1 | exact sm | exact mo | exact w2 | exact cc | exact j4 | exact m4 | exact j2 | exact cm | exact wd) ?_))
      · rw [decide_eq_false hx] at ex
        rw [if_neg (fun h => hx h.2)] at hgo
        repeat (first | (simp only [go_sem, Nat.reduceEqDiff, Nat.reduceAdd, Nat.reduceSub, Nat.reduceMul, Nat.reduceLeDiff, Nat.reduceLT, reduceIte, reduceCtorEq, Nat.succ_ne_zero, elemsC, Int.reduceToNat, Nat.reducePow, i1', i2', o2, i4, o4, i5, o5, i7, i8, i9, o7, o8, ec, ex]) | (simp (disch := (first | omega | (simp only [AL, List.length_map]; omega))) only [AR, AL, ifT, ifF, take_all, List.length_cons, List.length_nil, Int.reduceToNat, Int.reducePow, Nat.reducePow, i1', i2', o2, i4, o4, i5, o5, i7, i8, i9, o7, o8, ec, ex]) | (refine wk_intro (by kernel_rfl) ?_) | (refine vp_draw (id := 3) (l := []) (by kernel_rfl) ?_) | (refine vp_draw (id := 8) (l := []) (by kernel_rfl) ?_) | (refine vf_of (by first | exact pr | exact by1 | exact sm | exact mo | exact w2 | exact cc | exact j4 | exact m4 | exact j2 | exact cm) ?_))
        exact ⟨⟨f, i + 1, u1, u2, s1 + u1, s2 + u2, by first | rfl | (congr 2; omega), by omega, by rw [show 3 + 2 * (i + 1) = 3 + 2 * i + 2 by omega]; exact hgo, rfl, rfl, by rw [show 3 + 2 * (i + 1) = 3 + 2 * i + 2 by omega]; exact st⟩, by omega⟩
    · rw [decide_eq_false hu] at ec
      rw [if_neg (fun h => hu h.1)] at hgo
      repeat (first | (simp only [go_sem, Nat.reduceEqDiff, Nat.reduceAdd, Nat.reduceSub, Nat.reduceMul, Nat.reduceLeDiff, Nat.reduceLT, reduceIte, reduceCtorEq, Nat.succ_ne_zero, elemsC, Int.reduceToNat, Nat.reducePow, i1', i2', o2, i4, o4, i5, o5, i7, i8, i9, o7, o8, ec]) | (simp (disch := (first | omega | (simp only [AL, List.length_map]; omega))) only [AR, AL, ifT, ifF, take_all, List.length_cons, List.length_nil, Int.reduceToNat, Int.reducePow, Nat.reducePow, i1', i2', o2, i4, o4, i5, o5, i7, i8, i9, o7, o8, ec]) | (refine wk_intro (by kernel_rfl) ?_) | (refine vp_draw (id := 3) (l := []) (by kernel_rfl) ?_) | (refine vp_draw (id := 8) (l := []) (by kernel_rfl) ?_) | (refine vf_of (by first | exact pr | exact by1 | exact sm | exact mo | exact w2 | exact cc) ?_))
      exact ⟨⟨f, i + 1, u1, u2, s1 + u1, s2 + u2, by first | rfl | (congr 2; omega), by omega, by rw [show 3 + 2 * (i + 1) = 3 + 2 * i + 2 by omega]; exact hgo, rfl, rfl, by rw [show 3 + 2 * (i + 1) = 3 + 2 * i + 2 by omega]; exact st⟩, by omega⟩
end
end Go.Proofs.YtemnjalaincijaaGreat
namespace Go.Proofs.YtemnjalaincijaaGreat
open Go.Ev
section
variable {n d w many : Nat}
end
end Go.Proofs.YtemnjalaincijaaGreat
namespace Go.Proofs.YtemnjalaincijaaGreat
open Go.Ev
def arV (z y q r : Rat) (L : Nat) : Rat := z * sk y 3 L * evX (-q) L * (1 / r)
section
variable {z : Rat} {w P : Nat} {pI : Int}
end
end Go.Proofs.YtemnjalaincijaaGreat
namespace Go.Proofs.YtemnjalaincijaaGreat
open Go.Ev
theorem add_le2 {a b c d : Rat} (h : a ≤ b) (g : c ≤ d) : a + c ≤ b + d := by grind
theorem half_nn {s : Rat} (h0 : 0 ≤ s) (h : s ≤ 128) : -(s * mkRat 1 2) ≤ 0 ∧ -64 ≤ -(s * mkRat 1 2) := by
  rw [half_mk]
  have hh : (1 / 2 : Rat) * 2 = 1 := by decide +kernel
  have a := Rat.mul_nonneg h0 (show (0 : Rat) ≤ 1 / 2 by decide +kernel)
  have b := Rat.mul_le_mul_of_nonneg_right h (show (0 : Rat) ≤ 1 / 2 by decide +kernel)
  constructor <;> grind
theorem encS {w A B : Nat} {V : Rat} (neg : Bool) (h : Enc w A B V) : EncZ w (sLo neg A B) (sHi neg A B) (if neg then -V else V) := by
  obtain ⟨h1, h2⟩ := h
  unfold EncZ sLo sHi
  cases neg with
  | false =>
    rw [if_neg (by decide), if_neg (by decide), if_neg (by decide), castZn, castZn]
    exact ⟨h1, h2⟩
  | true =>
    rw [if_pos rfl, if_pos rfl, if_pos rfl, Rat.intCast_neg, Rat.intCast_neg, castZn, castZn]
    constructor <;> grind
theorem mkZ_in {w : Nat} {A B : Int} {V : Rat} (h : EncZ w A B V) : mkRat A (2 ^ w) ≤ V ∧ V ≤ mkRat B (2 ^ w) := by
  have P := p2_pos w
  exact ⟨le_by P (by rw [mk_mulP _ (Nat.pow_pos (by omega))]; exact h.1), le_by P (by rw [mk_mulP _ (Nat.pow_pos (by omega))]; exact h.2)⟩
section
variable {v vs : SV} {z s : Rat} {w p C1 C2 : Nat} {neg : Bool}
set_option maxHeartbeats 1000000 in
theorem ref10_area {L M : Nat} (hv : RatA v (if neg then -z else z) L) (hL1 : 1 ≤ L) (hL : L ≤ 20) (hs : RatA vs s M) (hM1 : 1 ≤ M) (hM : M ≤ 40) (h0 : 0 ≤ z) (h8 : z ≤ 8) (s0 : 0 ≤ s) (s128 : s ≤ 128) (hC : C1 ≤ C2) (lC : (lim C2).length ≤ 100) (hw0 : 50 ≤ w) (hw : w ≤ 400) :
    ∃ A B : Nat, Go.Ev.Fn CX 102 [v, vs, ivN C1 C2, .int .i64 (w : Int)] (ivS neg A B) ∧ A ≤ B ∧ (lim B).length ≤ 500 ∧ ∀ c, Enc w C1 C2 c → ∃ t, ∀ L, t ≤ L → Enc w A B (z * evX (-(s * mkRat 1 2)) L * c * sk s 3 L) := by
  have zs := szR_of hs hM1
  have hf := ref10_half hs hM1 (by omega)
  have zh := szR_mul zs half_len hM1
  have ng := ref2_Neg (RatA_rv zh) (by omega) (by omega)
  obtain ⟨n1, n2⟩ := half_nn s0 s128
  obtain ⟨E1, E2, e1, e2, fe, t1, ee⟩ := ref6_Iv (w := w) (RatA_rv (szR_neg zh)) (by omega) (by omega) n1 n2 (by omega)
  have lE := lim_len_p2k e2
  clear e2
  have nz := ref4_NumS (w := w) hv hL1 (by omega) (by omega) h0
  have ez := num_enc h0 w
  have z12 := un_up (q := z) w
  have zT : upN z w ≤ 2 ^ w * 8 := upN_le (n := 8) (m := 1) h0 (by
    rw [show ((8 : Nat) : Rat) = 8 from rfl, show ((1 : Nat) : Rat) = 1 from rfl]; grind) (by omega) (by omega)
  have lz := lim_len_p2k (n := upN z w) (w := w + 3) (by rw [Nat.pow_add]; exact zT)
  obtain ⟨R1, R2, fr, r1, r2, t2, er⟩ := ref10_row (w := w) hs hM1 (by omega) s0 s128 (by omega) (by omega)
  have P : 0 < 2 ^ w := Nat.pow_pos (by omega)
  have pr1 := ref4_ProdS (neg := neg) (a := unN z w) (b := upN z w) (c := E1) (d := E2) (w := w) z12 e1 (by omega) (by omega) (by omega) (by omega)
  have a12 : unN z w * E1 / 2 ^ w ≤ cdv (upN z w * E2) (2 ^ w) := div_le_cdv P (Nat.mul_le_mul z12 e1)
  have la := Nat.le_trans (lim_len_mono (cdv_self (upN z w * E2) P)) lim_len_mul
  have pr2 := ref4_ProdS (neg := neg) (a := unN z w * E1 / 2 ^ w) (b := cdv (upN z w * E2) (2 ^ w)) (c := C1) (d := C2) (w := w) a12 hC (by omega) (by omega) (by omega) (by omega)
  have b12 : unN z w * E1 / 2 ^ w * C1 / 2 ^ w ≤ cdv (cdv (upN z w * E2) (2 ^ w) * C2) (2 ^ w) := div_le_cdv P (Nat.mul_le_mul a12 hC)
  have lb := Nat.le_trans (lim_len_mono (cdv_self (cdv (upN z w * E2) (2 ^ w) * C2) P)) lim_len_mul
  have en : ∀ c, Enc w C1 C2 c → ∀ L, t1 + t2 ≤ L → Enc w (unN z w * E1 / 2 ^ w * C1 / 2 ^ w * R1 / 2 ^ w) (cdv (cdv (cdv (upN z w * E2) (2 ^ w) * C2) (2 ^ w) * R2) (2 ^ w)) (z * evX (-(s * mkRat 1 2)) L * c * sk s 3 L) := fun c hc L hL =>
    enc_prodN (enc_prodN (enc_prodN ez (ee L (by omega))) hc) (er L (by omega))
  generalize unN z w * E1 / 2 ^ w = A1 at *
  generalize cdv (upN z w * E2) (2 ^ w) = A2 at *
  generalize A1 * C1 / 2 ^ w = B1 at *
  generalize cdv (A2 * C2) (2 ^ w) = B2 at *
  have pr3 := ref4_ProdS (neg := neg) (a := B1) (b := B2) (c := R1) (d := R2) (w := w) b12 r1 (by omega) (by omega) (by omega) (by omega)
  have c12 : B1 * R1 / 2 ^ w ≤ cdv (B2 * R2) (2 ^ w) := div_le_cdv P (Nat.mul_le_mul b12 r1)
  have lc := Nat.le_trans (lim_len_mono (cdv_self (B2 * R2) P)) lim_len_mul
  refine ⟨_, _, ?_, c12, by omega, fun c hc => ⟨t1 + t2, en c hc⟩⟩
  clear en ee er ez n1 n2 c12 b12 a12 zT zs zh z12
  obtain ⟨s1, n1, d1, rfl, -⟩ := hv
  obtain ⟨s2, n2, d2, rfl, -⟩ := hs
  generalize B1 * R1 / 2 ^ w = O1 at *
  generalize cdv (B2 * R2) (2 ^ w) = O2 at *
  generalize -(s * mkRat 1 2) = q2 at *
  generalize s * mkRat 1 2 = q1 at *
  refine Go.Ev.Fn.intro (fn := Tryz.f102) (body := (Tryz.f102).body.get!) (by kernel_rfl) (by kernel_rfl) (by kernel_rfl) (fun _ => rfl) (Nat.le_of_ble_eq_true (by kernel_rfl)) ?_; unfold Tryz.f102; simp only [Option.get!_some]
  repeat (first | (simp only [go_sem, Nat.reduceEqDiff, Nat.reduceAdd, Nat.reduceSub, Nat.reduceMul, Nat.reduceLeDiff, Nat.reduceLT, reduceIte, reduceCtorEq, Nat.succ_ne_zero, elemsC, Int.reduceToNat, Nat.reducePow]) | (simp (disch := (first | omega | (simp only [AL, List.length_map]; omega))) only [AR, AL, ifT, ifF, take_all, List.length_cons, List.length_nil, Int.reduceToNat, Int.reducePow, Nat.reducePow]) | (refine wk_intro (by kernel_rfl) ?_) | (refine vp_draw (id := 2) (l := []) (by kernel_rfl) ?_) | (refine vp_draw (id := 3) (l := []) (by kernel_rfl) ?_) | (refine vf_of (by first | exact hf | exact ng | exact fe | exact nz | exact pr1 | exact pr2 | exact fr | exact pr3) ?_))
theorem neg_sq (neg : Bool) (z : Rat) : (if neg then -z else z) * (if neg then -z else z) = z * z := by
  cases neg
  · rfl
  · show -z * -z = z * z; grind
theorem ref10_share (hv : RatA v (if neg then -z else z) 3) (h0 : 0 ≤ z) (h8 : z ≤ 8) (hw0 : 20 ≤ w) (hw : w ≤ 230) :
    ∃ A B : Nat, ∃ r1 r2 : Rat, Go.Ev.Fn CX 100 [v, .int .i64 (w : Int)] (ivS neg A B) ∧ A ≤ B ∧ (lim B).length ≤ 500 ∧ 0 ≤ r1 ∧ 0 ≤ r2 ∧ r1 * r1 ≤ 2 * (SQ * SQ) ∧ 2 * (SQ * SQ) ≤ r2 * r2 ∧ ∀ r, r1 ≤ r → r ≤ r2 → ∃ t, ∀ L, t ≤ L → Enc w A B (arV z (z * z) (z * z / 2) r L) := by
  obtain ⟨W, hW, hw1, hw2, hwi⟩ : ∃ W : Nat, (∀ Q : Nat → Prop, Q W → Q (w + 130)) ∧ 150 ≤ W ∧ W ≤ 360 ∧ (w : Int) + 130 = (W : Int) := ⟨w + 130, fun Q h => h, by omega, by omega, rfl⟩
  obtain ⟨q0, q64⟩ := sq_bd h0 h8
  have mu := ref2_Mul hv hv (by omega) (by omega) (by omega)
  have zq := szR_mul (szR_of hv (by omega)) (szR_of hv (by omega)) (by omega)
  rw [neg_sq] at mu zq
  obtain ⟨C1, C2, r1, r2, fr, c12, lC, a0, a1, a2, a3, ec⟩ := ref10_root (n := 2) (w := W) (.inr rfl) (by omega) (by omega)
  obtain ⟨A, B, fa, ab, lB, ea⟩ := ref10_area (w := W) hv (by omega) (by omega) (RatA_rv zq) (by omega) (by omega) h0 h8 q0 (show z * z ≤ 128 by clear ec; grind) c12 (by omega) (by omega) (by omega)
  have bk := ref4_BackS (neg := neg) (a := A) (b := B) (n := 130) ab (by omega) (by omega) (by omega)
  have o12 := div_le_cdv (d := 2 ^ 130) (Nat.two_pow_pos 130) ab
  have lO := lim_len_mono (cdv_self B (Nat.two_pow_pos 130))
  rw [show ((2 : Nat) : Rat) = 2 from rfl] at a2 a3
  refine ⟨_, _, r1, r2, ?_, o12, by omega, a0, a1, a2, a3, fun r g1 g2 => ?_⟩
  rotate_left
  · obtain ⟨t, ht⟩ := ea _ (ec r g1 g2)
    refine ⟨t, fun L hL => ?_⟩
    have e := enc_backN (w := w) (n := 130) (hW (fun W => Enc W A B _) (ht L hL))
    have q : z * evX (-(z * z * mkRat 1 2)) L * (1 / r) * sk (z * z) 3 L = arV z (z * z) (z * z / 2) r L := by
      unfold arV
      have h2 : z * z * mkRat 1 2 = z * z / 2 := by rw [half_mk, Rat.div_def, Rat.div_def]; grind
      rw [h2]; grind
    rw [q] at e
    exact e
  clear ea ec q0 q64 a0 a1 a2 a3 zq h0 h8 o12
  obtain ⟨s1, n1, d1, rfl, -⟩ := hv
  generalize A / 2 ^ 130 = O1 at *
  generalize cdv B (2 ^ 130) = O2 at *
  generalize z * z = zz at *
  refine Go.Ev.Fn.intro (fn := Tryz.f100) (body := (Tryz.f100).body.get!) (by kernel_rfl) (by kernel_rfl) (by kernel_rfl) (fun _ => rfl) (Nat.le_of_ble_eq_true (by kernel_rfl)) ?_; unfold Tryz.f100; simp only [Option.get!_some]
  repeat (first | (simp only [go_sem, Nat.reduceEqDiff, Nat.reduceAdd, Nat.reduceSub, Nat.reduceMul, Nat.reduceLeDiff, Nat.reduceLT, reduceIte, reduceCtorEq, Nat.succ_ne_zero, elemsC, Int.reduceToNat, Nat.reducePow, hwi]) | (simp (disch := (first | omega | (simp only [AL, List.length_map]; omega))) only [AR, AL, ifT, ifF, take_all, List.length_cons, List.length_nil, Int.reduceToNat, Int.reducePow, Nat.reducePow, hwi]) | (refine wk_intro (by kernel_rfl) ?_) | (refine vp_draw (id := 2) (l := []) (by kernel_rfl) ?_) | (refine vf_of (by first | exact mu | exact fr | exact fa | exact bk) ?_))
theorem ref10_nigh {L : Nat} (hv : RatA v z L) (hL1 : 1 ≤ L) (hL : L ≤ 100) (h1 : -8 ≤ z) (h2 : z ≤ 8) : Go.Ev.Fn CX 28 [v] (.bool false) := by
  have im := ref2_Int (-8) (by omega)
  have ip := ref2_Int 8 (by omega)
  have c1 := ref2_Cmp hv (RatA_rv (int_szR (n := -8) (by omega))) hL1 (by omega) (by omega)
  have c2 := ref2_Cmp hv (RatA_rv (int_szR (n := 8) (by omega))) hL1 (by omega) (by omega)
  have e1 : decide (cmpR z ((-8 : Int) : Rat) < 0) = false := by rw [cmpR_lt]; exact decide_eq_false (Rat.not_lt.2 h1)
  have e2 : decide (cmpR z ((8 : Int) : Rat) > 0) = false := by rw [cmpR_gt]; exact decide_eq_false (Rat.not_lt.2 h2)
  obtain ⟨s, n, d, rfl, -⟩ := hv
  generalize cmpR z ((-8 : Int) : Rat) = y1 at *
  generalize cmpR z ((8 : Int) : Rat) = y2 at *
  refine Go.Ev.Fn.intro (fn := Tryz.f28) (body := (Tryz.f28).body.get!) (by kernel_rfl) (by kernel_rfl) (by kernel_rfl) (fun _ => rfl) (Nat.le_of_ble_eq_true (by kernel_rfl)) ?_; unfold Tryz.f28; simp only [Option.get!_some]
  repeat (first | (simp only [go_sem, Nat.reduceEqDiff, Nat.reduceAdd, Nat.reduceSub, Nat.reduceMul, Nat.reduceLeDiff, Nat.reduceLT, reduceIte, reduceCtorEq, Nat.succ_ne_zero, elemsC, Int.reduceToNat, Nat.reducePow, e1, e2]) | (simp (disch := (first | omega | (simp only [AL, List.length_map]; omega))) only [AR, AL, ifT, ifF, take_all, List.length_cons, List.length_nil, Int.reduceToNat, Int.reducePow, Nat.reducePow, e1, e2]) | (refine wk_intro (by kernel_rfl) ?_) | (refine vp_draw (id := 1) (l := []) (by kernel_rfl) ?_) | (refine vf_of (by first | exact im | exact c1 | exact ip | exact c2) ?_))
theorem neg_bd (neg : Bool) {z : Rat} (h0 : 0 ≤ z) (h8 : z ≤ 8) : -8 ≤ (if neg then -z else z) ∧ (if neg then -z else z) ≤ 8 := by
  cases neg
  · show -8 ≤ z ∧ z ≤ 8; constructor <;> grind
  · show -8 ≤ -z ∧ -z ≤ 8; constructor <;> grind
theorem szR_Z {A : Int} {w L : Nat} (h : (lim A.natAbs).length ≤ L) (hw : (lim (2 ^ w)).length ≤ L) (hL : 1 ≤ L) : szR (mkRat A (2 ^ w)) L := by
  obtain ⟨m, rfl | rfl⟩ := Int.eq_nat_or_neg A
  · exact szR_nat (by rw [Int.natAbs_natCast] at h; exact h) hw hL
  · have e : mkRat (-(m : Int)) (2 ^ w) = -mkRat (m : Int) (2 ^ w) := (Rat.neg_mkRat _ _).symm
    rw [e]
    exact szR_neg (szR_nat (by rw [Int.natAbs_neg, Int.natAbs_natCast] at h; exact h) hw hL)
theorem ref10_Phi (hv : RatA v (if neg then -z else z) 3) (h0 : 0 ≤ z) (h8 : z ≤ 8) (hp : p ≤ 200) :
    ∃ c d r1 r2 : Rat, Go.Ev.Fn CX 42 [v, .int .i64 (p : Int)] (.tup [ballR c d, .bool true]) ∧ szR c 600 ∧ szR d 600 ∧ 0 ≤ r1 ∧ 0 ≤ r2 ∧ r1 * r1 ≤ 2 * (SQ * SQ) ∧ 2 * (SQ * SQ) ≤ r2 * r2 ∧ ∀ r, r1 ≤ r → r ≤ r2 → ∃ t, ∀ L, t ≤ L → c ≤ 1 / 2 + (if neg then -arV z (z * z) (z * z / 2) r L else arV z (z * z) (z * z / 2) r L) ∧ 1 / 2 + (if neg then -arV z (z * z) (z * z / 2) r L else arV z (z * z) (z * z / 2) r L) ≤ d := by
  obtain ⟨A, B, r1, r2, fs, ab, lB, a0, a1, a2, a3, es⟩ := ref10_share (w := p + 20) hv h0 h8 (by omega) (by omega)
  have h12 : (0 : Rat) ≤ mkRat 1 2 := by rw [half_mk]; decide +kernel
  have nh := ref4_NumN (w := p + 20) (RatA_rv half_len) (by omega) (by omega) (by omega) h12
  have eh := num_enc h12 (p + 20)
  have hT : upN (mkRat 1 2) (p + 20) ≤ 2 ^ (p + 20) := upN_one h12 (by rw [half_mk]; decide +kernel)
  have hT1 := un_up (q := mkRat 1 2) (p + 20)
  have lH := lim_len_p2k hT
  have lH1 := lim_len_mono hT1
  have lp := lim_len_p2k (n := 2 ^ (p + 20)) (w := p + 20) (Nat.le_refl _)
  have oh := ref2_Of false [1] [2] (by simp [okL]) (by simp [okL]) (by simp) (by simp)
  rw [show wth [1] = 1 from rfl, show wth [2] = 2 from rfl] at oh
  have oh' : Go.Ev.Fn CX 30 [.bool false, .sl 1 [.int .u32 1], .sl 1 [.int .u32 2]] (rv (mkRat 1 2)) := oh
  clear oh
  have lA : (lim (sLo neg A B).natAbs).length ≤ 500 := Nat.le_trans (lim_len_mono (sLo_abs neg ab)) lB
  have lA2 : (lim (sHi neg A B).natAbs).length ≤ 500 := Nat.le_trans (lim_len_mono (sHi_abs neg ab)) lB
  have sm := ref4_Sum (a := ((unN (mkRat 1 2) (p + 20) : Nat) : Int)) (b := ((upN (mkRat 1 2) (p + 20) : Nat) : Int)) (c := sLo neg A B) (d := sHi neg A B) (by rw [Int.natAbs_natCast]; omega) (by rw [Int.natAbs_natCast]; omega) (by omega) (by omega)
  rw [ivN_eq] at sm
  have en : ∀ r, r1 ≤ r → r ≤ r2 → ∃ t, ∀ L, t ≤ L → EncZ (p + 20) (((unN (mkRat 1 2) (p + 20) : Nat) : Int) + sLo neg A B) (((upN (mkRat 1 2) (p + 20) : Nat) : Int) + sHi neg A B) (1 / 2 + (if neg then -arV z (z * z) (z * z / 2) r L else arV z (z * z) (z * z / 2) r L)) := by
    intro r g1 g2
    obtain ⟨t, ht⟩ := es r g1 g2
    refine ⟨t, fun L hL => ?_⟩
    obtain ⟨k1, k2⟩ := encS neg (ht L hL)
    rw [half_mk] at eh
    obtain ⟨k3, k4⟩ := eh
    unfold EncZ
    rw [castZ, castZ, castZn, castZn, half_mk, Rat.add_mul]
    exact ⟨add_le2 k3 k1, add_le2 k4 k2⟩
  have n1 : (lim (((unN (mkRat 1 2) (p + 20) : Nat) : Int) + sLo neg A B).natAbs).length ≤ 501 := by
    refine Nat.le_trans (lim_len_mono (Int.natAbs_add_le _ _)) (lim_len_add (L := 500) ?_ lA)
    rw [Int.natAbs_natCast]; omega
  have n2 : (lim (((upN (mkRat 1 2) (p + 20) : Nat) : Int) + sHi neg A B).natAbs).length ≤ 501 := by
    refine Nat.le_trans (lim_len_mono (Int.natAbs_add_le _ _)) (lim_len_add (L := 500) ?_ lA2)
    rw [Int.natAbs_natCast]; omega
  have bl := ref4_Ball (by omega) (by omega) (p + 20) (by omega) (a := ((unN (mkRat 1 2) (p + 20) : Nat) : Int) + sLo neg A B) (b := ((upN (mkRat 1 2) (p + 20) : Nat) : Int) + sHi neg A B)
  refine ⟨mkRat (((unN (mkRat 1 2) (p + 20) : Nat) : Int) + sLo neg A B) (2 ^ (p + 20)), mkRat (((upN (mkRat 1 2) (p + 20) : Nat) : Int) + sHi neg A B) (2 ^ (p + 20)), r1, r2, ?_, szR_Z (L := 600) (by omega) (by omega) (by omega), szR_Z (L := 600) (by omega) (by omega) (by omega), a0, a1, a2, a3, fun r g1 g2 => ?_⟩
  rotate_left
  · obtain ⟨t, ht⟩ := en r g1 g2
    exact ⟨t, fun L hL => mkZ_in (ht L hL)⟩
  have fr := ref10_nigh hv (by omega) (by omega) (neg_bd neg h0 h8).1 (neg_bd neg h0 h8).2
  have ho := ref10_Hold (p := p) (by omega)
  rw [show ((p + 20 : Nat) : Int) = (p : Int) + 20 from rfl] at fs nh bl
  clear en es eh hT hT1 h0 h8 a0 a1 a2 a3 n1 n2 ab h12
  obtain ⟨s1, n1, d1, rfl, -⟩ := hv
  generalize ((unN (mkRat 1 2) (p + 20) : Nat) : Int) + sLo neg A B = y1 at *
  generalize ((upN (mkRat 1 2) (p + 20) : Nat) : Int) + sHi neg A B = y2 at *
  generalize unN (mkRat 1 2) (p + 20) = u1 at *
  generalize upN (mkRat 1 2) (p + 20) = u2 at *
  generalize mkRat y1 (2 ^ (p + 20)) = q1 at *
  generalize mkRat y2 (2 ^ (p + 20)) = q2 at *
  generalize mkRat 1 2 = hf at *
  refine Go.Ev.Fn.intro (fn := Tryz.f42) (body := (Tryz.f42).body.get!) (by kernel_rfl) (by kernel_rfl) (by kernel_rfl) (fun _ => rfl) (Nat.le_of_ble_eq_true (by kernel_rfl)) ?_; unfold Tryz.f42; simp only [Option.get!_some]
  repeat (first | (simp only [go_sem, Nat.reduceEqDiff, Nat.reduceAdd, Nat.reduceSub, Nat.reduceMul, Nat.reduceLeDiff, Nat.reduceLT, reduceIte, reduceCtorEq, Nat.succ_ne_zero, elemsC, Int.reduceToNat, Nat.reducePow]) | (simp (disch := (first | omega | (simp only [AL, List.length_map]; omega))) only [AR, AL, ifT, ifF, take_all, List.length_cons, List.length_nil, Int.reduceToNat, Int.reducePow, Nat.reducePow]) | (refine wk_intro (by kernel_rfl) ?_) | (refine vp_draw (id := 5) (l := []) (by kernel_rfl) ?_) | (refine vf_of (by first | exact fr | exact ho | exact oh' | exact nh | exact fs | exact sm | exact bl) ?_))
theorem ref10_Tail {pI : Int} {a b : Rat} {ok : Bool} (hv : RatA v z 3) (h : Go.Ev.Fn CX 42 [rv (-z), .int .i64 pI] (.tup [ballR a b, .bool ok])) : Go.Ev.Fn CX 32 [v, .int .i64 pI] (.tup [ballR a b, .bool ok]) := by
  have ng := ref2_Neg hv (by omega) (by omega)
  obtain ⟨s, n, d, rfl, -⟩ := hv
  generalize -z = y at *
  refine Go.Ev.Fn.intro (fn := Tryz.f32) (body := (Tryz.f32).body.get!) (by kernel_rfl) (by kernel_rfl) (by kernel_rfl) (fun _ => rfl) (Nat.le_of_ble_eq_true (by kernel_rfl)) ?_; unfold Tryz.f32; simp only [Option.get!_some]
  repeat (first | (simp only [go_sem, Nat.reduceEqDiff, Nat.reduceAdd, Nat.reduceSub, Nat.reduceMul, Nat.reduceLeDiff, Nat.reduceLT, reduceIte, reduceCtorEq, Nat.succ_ne_zero, elemsC, Int.reduceToNat, Nat.reducePow]) | (simp (disch := (first | omega | (simp only [AL, List.length_map]; omega))) only [AR, AL, ifT, ifF, take_all, List.length_cons, List.length_nil, Int.reduceToNat, Int.reducePow, Nat.reducePow]) | (refine wk_intro (by kernel_rfl) ?_) | (refine vf_of (by first | exact ng | exact h) ?_))
end
end Go.Proofs.YtemnjalaincijaaGreat
namespace Go.Proofs.YtemnjalaincijaaGreat
open Go.Ev
section
variable {v : SV} {z : Rat} {p : Int} {P : Nat} {s : Bool} {N D : List Nat}
end
end Go.Proofs.YtemnjalaincijaaGreat
namespace Go.Proofs.YtemnjalaincijaaGreat
open Go.Ev
def nRowQ (w Y1 Y2 : Nat) : Nat → Nat → Nat → Nat → Nat → Nat → Nat → Nat → Option (Nat × Nat × Nat × Nat)
  | 0, _, _, _, _, _, _, _ => none
  | f + 1, i, t1, t2, a1, a2, b1, b2 => pin (t1 * Y1 / 2 ^ w / i) fun u1 => pin (cdv (cdv (t2 * Y2) (2 ^ w)) i) fun u2 => pin (i + 1) fun i' =>
    if i % 2 = 1 then pin (b1 + u1) fun c1 => pin (b2 + u2) fun c2 => if u2 ≤ 2 then some (a1, a2, c1, c2) else nRowQ w Y1 Y2 f i' u1 u2 a1 a2 c1 c2
    else pin (a1 + u1) fun c1 => pin (a2 + u2) fun c2 => if u2 ≤ 2 then some (c1, c2, b1, b2) else nRowQ w Y1 Y2 f i' u1 u2 c1 c2 b1 b2
theorem nRowQ_is {w Y1 Y2 : Nat} : ∀ (f i t1 t2 a1 a2 b1 b2 : Nat) {p1 p2 q1 q2 : Nat}, nRowQ w Y1 Y2 f i t1 t2 a1 a2 b1 b2 = some (p1, p2, q1, q2) → nRow w Y1 Y2 f i t1 t2 ((a1 : Int) - b2) ((a2 : Int) - b1) = some ((p1 : Int) - q2 - 4, (p2 : Int) - q1 + 4) := by
  intro f
  induction f with
  | zero => intro i t1 t2 a1 a2 b1 b2 p1 p2 q1 q2 h; cases h
  | succ f ih =>
    intro i t1 t2 a1 a2 b1 b2 p1 p2 q1 q2 h
    rw [nRowQ] at h
    rw [pin_eq, pin_eq, pin_eq] at h
    rw [nRow]
    generalize t1 * Y1 / 2 ^ w / i = u1 at *
    generalize cdv (cdv (t2 * Y2) (2 ^ w)) i = u2 at *
    by_cases g : i % 2 = 1
    · rw [if_pos g, pin_eq, pin_eq] at h
      rw [if_pos g, if_pos g]
      by_cases k : u2 ≤ 2
      · rw [if_pos k] at h ⊢
        simp only [Option.some.injEq, Prod.mk.injEq] at h ⊢
        omega
      · rw [if_neg k] at h ⊢
        have := ih _ _ _ _ _ _ _ h
        rw [show (a1 : Int) - b2 - u2 = (a1 : Int) - ((b2 + u2 : Nat) : Int) by omega, show (a2 : Int) - b1 - u1 = (a2 : Int) - ((b1 + u1 : Nat) : Int) by omega]
        exact this
    · rw [if_neg g, pin_eq, pin_eq] at h
      rw [if_neg g, if_neg g]
      by_cases k : u2 ≤ 2
      · rw [if_pos k] at h ⊢
        simp only [Option.some.injEq, Prod.mk.injEq] at h ⊢
        omega
      · rw [if_neg k] at h ⊢
        have := ih _ _ _ _ _ _ _ h
        rw [show (a1 : Int) - b2 + u1 = ((a1 + u1 : Nat) : Int) - b2 by omega, show (a2 : Int) - b1 + u2 = ((a2 + u2 : Nat) : Int) - b1 by omega]
        exact this
def sqnP (w : Nat) : Nat → Nat → Nat → Nat × Nat
  | 0, a, b => (a, b)
  | k + 1, a, b => pin (a * a / 2 ^ w) fun a' => pin (cdv (b * b) (2 ^ w)) fun b' => sqnP w k a' b'
theorem sqnP_is {w : Nat} : ∀ k a b : Nat, sqnP w k a b = sqn w k a b
  | 0, _, _ => rfl
  | k + 1, a, b => by rw [sqnP, pin_eq, pin_eq]; exact sqnP_is k _ _
def exOk : Bool := match nRowQ 210 (2 ^ 202) (2 ^ 202) 108 1 (2 ^ 210) (2 ^ 210) (2 ^ 210) (2 ^ 210) 0 0 with
  | some (p1, p2, q1, q2) => Nat.ble (q2 + 4) p1 && (Nat.ble q1 p2 && pin (p1 - q2 - 4) fun a => pin (p2 - q1 + 4) fun b => match sqnP 210 8 a b with | (r1, r2) => Nat.beq (r1 / 2 ^ 130 / 2 ^ 20) (cdv r2 (2 ^ 130) / 2 ^ 20))
  | none => false
theorem ex_ok : exOk = true := by kernel_rfl
theorem ex_cert {A0 B0 : Nat} {N M : Nat} (hN : N = 210) (hM : M = 2 ^ 202) (h : nRow N M M 108 1 (2 ^ N) (2 ^ N) (2 ^ N : Nat) (2 ^ N : Nat) = some ((A0 : Int), (B0 : Int))) : (sqn N 8 A0 B0).1 / 2 ^ 130 / 2 ^ 20 = cdv (sqn N 8 A0 B0).2 (2 ^ 130) / 2 ^ 20 := by
  have k := ex_ok
  unfold exOk at k
  rw [← hN, ← hM] at k
  split at k
  · rename_i p1 p2 q1 q2 hq
    have z := nRowQ_is _ _ _ _ _ _ _ _ hq
    rw [Bool.and_eq_true, Bool.and_eq_true, pin_eq, pin_eq, sqnP_is] at k
    obtain ⟨k1, k2, k3⟩ := k
    have k1 := Nat.le_of_ble_eq_true k1
    have k2 := Nat.le_of_ble_eq_true k2
    rw [show ((2 ^ N : Nat) : Int) - ((0 : Nat) : Int) = ((2 ^ N : Nat) : Int) by omega, h] at z
    simp only [Option.some.injEq, Prod.mk.injEq] at z
    obtain ⟨z1, z2⟩ := z
    rw [show p1 - q2 - 4 = A0 by omega, show p2 - q1 + 4 = B0 by omega] at k3
    exact Nat.eq_of_beq_eq_true k3
  · cases k
theorem ref4_Floor {A B w p : Nat} (lA : (lim A).length ≤ 1000) (lB : (lim B).length ≤ 1000) (hp : p < w) (hw : w ≤ 4096) : Go.Ev.Fn CX 87 [ivN A B, .int .i64 (w : Int), .int .i64 (p : Int)] (.tup [ballR (mkRat ((A / 2 ^ (w - p) : Nat) : Int) (2 ^ p)) (mkRat ((A / 2 ^ (w - p) + 1 : Nat) : Int) (2 ^ p)), .bool (decide (A / 2 ^ (w - p) = B / 2 ^ (w - p)))]) := by
  have a := ref4_Less (A : Int) (w - p) (by rw [Int.natAbs_natCast]; omega) (by omega) (by omega)
  have b := ref4_Less (B : Int) (w - p) (by rw [Int.natAbs_natCast]; omega) (by omega) (by omega)
  rw [← Int.natCast_ediv, intN_eq, intN_eq] at a b
  have l1 := lim_len_mono (Nat.div_le_self A (2 ^ (w - p)))
  have l2 := lim_len_mono (Nat.div_le_self B (2 ^ (w - p)))
  generalize A / 2 ^ (w - p) = m at *
  generalize B / 2 ^ (w - p) = m' at *
  have r1 := ref4_Rat (a := (m : Int)) (by rw [Int.natAbs_natCast]; omega) p (by omega)
  have w1 := ref4_Whole 1 (by omega)
  have lo := lim_len1
  have pl := ref4_Plus (m : Int) ((1 : Nat) : Int) (by rw [Int.natAbs_natCast]; omega) (by rw [Int.natAbs_natCast]; omega)
  have l3 := lim_len_add (a := m) (b := 1) (L := 1000) (by omega) (by omega)
  have r2 := ref4_Rat (a := ((m + 1 : Nat) : Int)) (by rw [Int.natAbs_natCast]; omega) p (by omega)
  have cc := ref4_CmpN (a := m) (b := m') (by omega) (by omega)
  rw [show (m : Int) + ((1 : Nat) : Int) = ((m + 1 : Nat) : Int) by omega, intN_eq, intN_eq, intN_eq] at pl
  rw [show (1 : Int) = ((1 : Nat) : Int) from rfl, intN_eq] at w1
  rw [intN_eq] at r1 r2
  have ec : (cmpZ ((m : Nat) : Int) ((m' : Nat) : Int) == 0) = decide (m = m') := decide_eq_decide.2 (by unfold cmpZ; constructor <;> intro h <;> (first | (split at h <;> (first | omega | (split at h <;> omega))) | (subst h; rw [if_neg (by omega), if_pos rfl])))
  rw [← ec]
  clear ec
  generalize cmpZ ((m : Nat) : Int) ((m' : Nat) : Int) = z at *
  generalize mkRat ((m + 1 : Nat) : Int) (2 ^ p) = q2 at *
  generalize mkRat ((m : Nat) : Int) (2 ^ p) = q1 at *
  generalize m + 1 = m1 at *
  refine Go.Ev.Fn.intro (fn := Tryz.f87) (body := (Tryz.f87).body.get!) (by kernel_rfl) (by kernel_rfl) (by kernel_rfl) (fun _ => rfl) (Nat.le_of_ble_eq_true (by kernel_rfl)) ?_; unfold Tryz.f87; simp only [Option.get!_some]
  repeat (first | (simp only [go_sem, Nat.reduceEqDiff, Nat.reduceAdd, Nat.reduceSub, Nat.reduceMul, Nat.reduceLeDiff, Nat.reduceLT, reduceIte, reduceCtorEq, Nat.succ_ne_zero, elemsC, Int.reduceToNat, Nat.reducePow]) | (simp (disch := (first | omega | (simp only [AL, List.length_map]; omega))) only [AR, AL, ifT, ifF, take_all, List.length_cons, List.length_nil, Int.reduceToNat, Int.reducePow, Nat.reducePow]) | (refine wk_intro (by kernel_rfl) ?_) | (refine vp_draw (id := 1) (l := []) (by kernel_rfl) ?_) | (refine vp_draw (id := 2) (l := []) (by kernel_rfl) ?_) | (refine vf_of (by first | exact a | exact b | exact r1 | exact w1 | exact pl | exact r2 | exact cc) ?_))
theorem ref6_far1 {v : SV} (hv : RatA v (-1) 2) : Go.Ev.Fn CX 85 [v] (.bool false) := by
  have im := ref2_Int (-64) (by omega)
  have ip := ref2_Int 64 (by omega)
  have c1 := ref2_Cmp hv (RatA_rv (int_szR (n := -64) (by omega))) (by omega) (by omega) (by omega)
  have c2 := ref2_Cmp hv (RatA_rv (int_szR (n := 64) (by omega))) (by omega) (by omega) (by omega)
  have e1 : decide (cmpR (-1) ((-64 : Int) : Rat) < 0) = false := by rw [cmpR_lt]; decide +kernel
  have e2 : decide (cmpR (-1) ((64 : Int) : Rat) > 0) = false := by rw [cmpR_gt]; decide +kernel
  generalize cmpR (-1) ((-64 : Int) : Rat) = y1 at *
  generalize cmpR (-1) ((64 : Int) : Rat) = y2 at *
  obtain ⟨s, n, d, rfl, -⟩ := hv
  refine Go.Ev.Fn.intro (fn := Tryz.f85) (body := (Tryz.f85).body.get!) (by kernel_rfl) (by kernel_rfl) (by kernel_rfl) (fun _ => rfl) (Nat.le_of_ble_eq_true (by kernel_rfl)) ?_; unfold Tryz.f85; simp only [Option.get!_some]
  repeat (first | (simp only [go_sem, Nat.reduceEqDiff, Nat.reduceAdd, Nat.reduceSub, Nat.reduceMul, Nat.reduceLeDiff, Nat.reduceLT, reduceIte, reduceCtorEq, Nat.succ_ne_zero, elemsC, Int.reduceToNat, Nat.reducePow, e1, e2]) | (simp (disch := (first | omega | (simp only [AL, List.length_map]; omega))) only [AR, AL, ifT, ifF, take_all, List.length_cons, List.length_nil, Int.reduceToNat, Int.reducePow, Nat.reducePow, e1, e2]) | (refine wk_intro (by kernel_rfl) ?_) | (refine vp_draw (id := 1) (l := []) (by kernel_rfl) ?_) | (refine vf_of (by first | exact im | exact c1 | exact ip | exact c2) ?_))
theorem ref6_Exp1 {v : SV} (hv : RatA v (-1) 2) : ∃ m : Nat, (lim m).length ≤ 40 ∧ Go.Ev.Fn CX 35 [v, .int .i64 60] (.tup [ballR (mkRat (m : Int) (2 ^ 60)) (mkRat ((m + 1 : Nat) : Int) (2 ^ 60)), .bool true]) ∧ ∃ s, ∀ L, s ≤ L → Enc 60 m (m + 1) (evX (-1) L) := by
  obtain ⟨A, B, a1, a2, fi, ⟨s, hs⟩, A0, B0, hr, hA, hB⟩ := ref6_IvX (w := 80) hv (by omega) (by omega) (by decide) (by decide) (by omega)
  have u1 : unN (-(-1) * (1 / 256)) 210 = 2 ^ 202 := by decide +kernel
  have u2 : upN (-(-1) * (1 / 256)) 210 = 2 ^ 202 := by decide +kernel
  rw [show 80 + 130 = 210 from rfl] at hr hA hB
  rw [show 210 / 2 + 3 = 108 from rfl, u1, u2] at hr
  have ce := ex_cert rfl rfl hr
  rw [← hA, ← hB] at ce
  have lB : (lim B).length ≤ 40 := lim_len_p2 (w := 80 + 130 + 256) a2 (by omega)
  have lA := lim_len_mono a1
  clear hr u1 u2 a2 hA hB
  have fl := ref4_Floor (A := A) (B := B) (w := 80) (p := 60) (by omega) (by omega) (by omega) (by omega)
  rw [show 80 - 60 = 20 from rfl, decide_eq_true ce] at fl
  refine ⟨A / 2 ^ 20, Nat.le_trans (lim_len_mono (Nat.div_le_self _ _)) (by omega), ?_, s, fun L hL => ?_⟩
  rotate_left
  · have e := enc_backN (w := 60) (n := 20) (hs L hL)
    refine ⟨e.1, Rat.le_trans e.2 (Ex.castle ?_)⟩
    rw [ce]
    exact cdv_le (by decide) (by
      have := Nat.lt_div_mul_add (a := B) (b := 2 ^ 20) (by decide)
      rw [Nat.add_mul]; omega)
  · have ho := ref4_Hold (p := 60) (P := 60) (.inr rfl) (by omega)
    have fa := ref6_far1 hv
    have zr := ref2_Zero hv (by omega) (by omega)
    rw [decide_eq_false (by decide)] at zr
    clear hs ce lA lB a1
    generalize mkRat ((A / 2 ^ 20 : Nat) : Int) (2 ^ 60) = q1 at *
    generalize mkRat ((A / 2 ^ 20 + 1 : Nat) : Int) (2 ^ 60) = q2 at *
    obtain ⟨s0, n0, d0, rfl, -⟩ := hv
    refine Go.Ev.Fn.intro (fn := Tryz.f35) (body := (Tryz.f35).body.get!) (by kernel_rfl) (by kernel_rfl) (by kernel_rfl) (fun _ => rfl) (Nat.le_of_ble_eq_true (by kernel_rfl)) ?_; unfold Tryz.f35; simp only [Option.get!_some]
    repeat (first | (simp only [go_sem, Nat.reduceEqDiff, Nat.reduceAdd, Nat.reduceSub, Nat.reduceMul, Nat.reduceLeDiff, Nat.reduceLT, reduceIte, reduceCtorEq, Nat.succ_ne_zero, elemsC, Int.reduceToNat, Nat.reducePow]) | (simp (disch := (first | omega | (simp only [AL, List.length_map]; omega))) only [AR, AL, ifT, ifF, take_all, List.length_cons, List.length_nil, Int.reduceToNat, Int.reducePow, Nat.reducePow]) | (refine wk_intro (by kernel_rfl) ?_) | (refine vf_of (by first | exact ho | exact fa | exact zr) ?_))
    refine vp_loop_inv (fun s' => s'.tmp 1 = .sv (.int .i64 60) ∧ s'.tmp 2 = .ptr 2 0 0 ∧ s'.obj 2 0 = some [.bool s0, natV n0, natV d0] ∧ s'.tmp 4 = .ptr 4 0 0 ∧ s'.obj 4 0 = some [.bool false, .sl 0 [], .sl 0 [], .bool false, .sl 0 [], .sl 0 []] ∧ s'.tmp 6 = .sv (.int .i64 80))
      (fun _ => 0) ⟨rfl, rfl, rfl, rfl, rfl, rfl⟩ ?_
    rintro s' ⟨i1, i2, o2, i4, o4, i6⟩
    repeat (first | (simp only [go_sem, Nat.reduceEqDiff, Nat.reduceAdd, Nat.reduceSub, Nat.reduceMul, Nat.reduceLeDiff, Nat.reduceLT, reduceIte, reduceCtorEq, Nat.succ_ne_zero, elemsC, Int.reduceToNat, Nat.reducePow, i1, i2, o2, i4, o4, i6]) | (simp (disch := (first | omega | (simp only [AL, List.length_map]; omega))) only [AR, AL, ifT, ifF, take_all, List.length_cons, List.length_nil, Int.reduceToNat, Int.reducePow, Nat.reducePow, i1, i2, o2, i4, o4, i6]) | (refine wk_intro (by kernel_rfl) ?_) | (refine vf_of (by first | exact fi | exact fl) ?_))
theorem law11_big (s : Bool) (n d : List Nat) (hn : n.length ≤ 9223372036854775807) (hd : d.length ≤ 9223372036854775807) : Go.Ev.Fn CX 15 [.sl 1 [.bool s, natV n, natV d]] (.bool (decide (3 < n.length) || decide (3 < d.length))) := by
  refine Go.Ev.Fn.intro (fn := Tryz.f15) (body := (Tryz.f15).body.get!) (by kernel_rfl) (by kernel_rfl) (by kernel_rfl) (fun _ => rfl) (Nat.le_of_ble_eq_true (by kernel_rfl)) ?_; unfold Tryz.f15; simp only [Option.get!_some]
  repeat (first | (simp only [go_sem, Nat.reduceEqDiff, Nat.reduceAdd, Nat.reduceSub, Nat.reduceMul, Nat.reduceLeDiff, Nat.reduceLT, reduceIte, reduceCtorEq, Nat.succ_ne_zero, elemsC, Int.reduceToNat, Nat.reducePow]) | (simp (disch := (first | omega | (simp only [AL, List.length_map]; omega))) only [AR, AL, ifT, ifF, take_all, List.length_cons, List.length_nil, Int.reduceToNat, Int.reducePow, Nat.reducePow]) | (refine wk_intro (by kernel_rfl) ?_))
  refine vp_loop_inv (fun st => st.tmp 0 = .sv (.sl 1 [.bool s, natV n, natV d]) ∧ ((st.tmp 3 = .sv (.int .i64 0)) ∨ (st.tmp 3 = .sv (.int .i64 1) ∧ n.length ≤ 3 ∧ d.length ≤ 3)))
    (fun st => match st.tmp 3 with | .sv (.int _ i) => 1 - i.toNat | _ => 0) ⟨rfl, .inl rfl⟩ ?_
  rintro st ⟨i0, i3 | ⟨i3, h1, h2⟩⟩
  · by_cases h1 : 3 < n.length
    · rw [decide_eq_true h1, Bool.true_or]
      repeat (first | (simp only [go_sem, Nat.reduceEqDiff, Nat.reduceAdd, Nat.reduceSub, Nat.reduceMul, Nat.reduceLeDiff, Nat.reduceLT, reduceIte, reduceCtorEq, Nat.succ_ne_zero, elemsC, Int.reduceToNat, Nat.reducePow, i0, i3]) | (simp (disch := (first | omega | (simp only [AL, List.length_map]; omega))) only [AR, AL, ifT, ifF, take_all, List.length_cons, List.length_nil, Int.reduceToNat, Int.reducePow, Nat.reducePow, i0, i3]) | (refine wk_intro (by kernel_rfl) ?_))
    · rw [decide_eq_false h1, Bool.false_or]
      by_cases h2 : 3 < d.length
      · rw [decide_eq_true h2]
        repeat (first | (simp only [go_sem, Nat.reduceEqDiff, Nat.reduceAdd, Nat.reduceSub, Nat.reduceMul, Nat.reduceLeDiff, Nat.reduceLT, reduceIte, reduceCtorEq, Nat.succ_ne_zero, elemsC, Int.reduceToNat, Nat.reducePow, i0, i3]) | (simp (disch := (first | omega | (simp only [AL, List.length_map]; omega))) only [AR, AL, ifT, ifF, take_all, List.length_cons, List.length_nil, Int.reduceToNat, Int.reducePow, Nat.reducePow, i0, i3]) | (refine wk_intro (by kernel_rfl) ?_))
      · rw [decide_eq_false h2]
        repeat (first | (simp only [go_sem, Nat.reduceEqDiff, Nat.reduceAdd, Nat.reduceSub, Nat.reduceMul, Nat.reduceLeDiff, Nat.reduceLT, reduceIte, reduceCtorEq, Nat.succ_ne_zero, elemsC, Int.reduceToNat, Nat.reducePow, i0, i3]) | (simp (disch := (first | omega | (simp only [AL, List.length_map]; omega))) only [AR, AL, ifT, ifF, take_all, List.length_cons, List.length_nil, Int.reduceToNat, Int.reducePow, Nat.reducePow, i0, i3]) | (refine wk_intro (by kernel_rfl) ?_))
        first | exact ⟨.inr ⟨rfl, by omega, by omega⟩, by decide⟩ | exact ⟨by omega, by omega⟩
  · rw [decide_eq_false (by omega), decide_eq_false (by omega), Bool.or_false]
    repeat (first | (simp only [go_sem, Nat.reduceEqDiff, Nat.reduceAdd, Nat.reduceSub, Nat.reduceMul, Nat.reduceLeDiff, Nat.reduceLT, reduceIte, reduceCtorEq, Nat.succ_ne_zero, elemsC, Int.reduceToNat, Nat.reducePow, i0, i3]) | (simp (disch := (first | omega | (simp only [AL, List.length_map]; omega))) only [AR, AL, ifT, ifF, take_all, List.length_cons, List.length_nil, Int.reduceToNat, Int.reducePow, Nat.reducePow, i0, i3]) | (refine wk_intro (by kernel_rfl) ?_))
theorem tk_e : ∀ j : Nat, tk 2 4 j = Ex.tm 1 (j + 1)
  | 0 => by decide +kernel
  | j + 1 => by
    have ih := tk_e j
    show tk 2 4 j * 2 * ((1 : Nat) : Rat) / ((4 + 2 * j : Nat) : Rat) = Ex.tm 1 (j + 1) * 1 / ((j + 1 + 1 : Nat) : Rat)
    rw [ih]
    have e : ((4 + 2 * j : Nat) : Rat) = 2 * ((j + 1 + 1 : Nat) : Rat) := by
      rw [show 4 + 2 * j = 2 * (j + 1 + 1) by omega, Ex.castmul]; rfl
    have c : ((j + 1 + 1 : Nat) : Rat) ≠ 0 := Ex.nsucc_ne (j + 1)
    rw [e, show ((1 : Nat) : Rat) = 1 from rfl]
    generalize ((j + 1 + 1 : Nat) : Rat) = z at *
    have h1 : 2 * z ≠ 0 := fun h => by rcases Rat.mul_eq_zero.1 h with h | h; exact absurd h (by decide); exact c h
    have a := Rat.div_mul_cancel (a := Ex.tm 1 (j + 1) * 2 * 1) h1
    have b := Rat.div_mul_cancel (a := Ex.tm 1 (j + 1) * 1) c
    generalize Ex.tm 1 (j + 1) * 2 * 1 / (2 * z) = p at *
    generalize Ex.tm 1 (j + 1) * 1 / z = q at *
    have : (p - q) * z = 0 := by grind
    rcases Rat.mul_eq_zero.1 this with h | h
    · grind
    · exact absurd h c
theorem sk_e : ∀ j : Nat, sk 2 4 j + 1 = Ex.E 1 (j + 1)
  | 0 => by decide +kernel
  | j + 1 => by
    have ih := sk_e j
    show sk 2 4 j + tk 2 4 j + 1 = Ex.E 1 (j + 1) + Ex.tm 1 (j + 1)
    rw [tk_e, ← ih]; grind
theorem igV_e {s : Rat} {L : Nat} (hL : 1 ≤ L) : 1 - evX (-1) L ≤ igV 2 s 1 L ∧ igV 2 s 1 L ≤ 1 - evX (-1) L + Ex.tm 1 L := by
  have e1 : igC 2 s = 1 := rfl
  have e2 : tk (1 * 2) (2 + 2 % 2) (2 / 2) = 1 := by decide +kernel
  have ev : evX (-1) L = 1 / Ex.E 1 L := by
    unfold evX
    rw [if_pos (by decide), show (- -1 : Rat) = 1 by decide +kernel]
  have one := E_one (x := 1) (by decide) hL
  have iv : Ex.E 1 L * (1 / Ex.E 1 L) = 1 := Ex.mul_div _ 1 (by grind)
  have i0 : 0 ≤ 1 / Ex.E 1 L := Ex.div_nn (by decide) (by grind)
  have i1 : 1 / Ex.E 1 L ≤ 1 := by
    have := Rat.mul_le_mul_of_nonneg_right one i0
    rw [iv, Rat.one_mul] at this; exact this
  have hk := sk_e L
  have t0 := Ex.tm_nn (x := 1) (by decide) L
  have e3 : igV 2 s 1 L = (Ex.E 1 L + Ex.tm 1 L - 1) * (1 / Ex.E 1 L) := by
    unfold igV
    rw [e1, e2, ev, show (1 : Rat) * 2 = 2 by decide +kernel, show 2 + 2 = 4 from rfl]
    have : Ex.E 1 (L + 1) = Ex.E 1 L + Ex.tm 1 L := rfl
    rw [this] at hk
    rw [show sk 2 4 L = Ex.E 1 L + Ex.tm 1 L - 1 by grind]
    grind
  rw [e3, ev]
  generalize 1 / Ex.E 1 L = i at *
  have k : (Ex.E 1 L + Ex.tm 1 L - 1) * i = 1 - i + Ex.tm 1 L * i := by
    have : (Ex.E 1 L + Ex.tm 1 L - 1) * i = Ex.E 1 L * i - i + Ex.tm 1 L * i := by grind
    rw [this, iv]
  rw [k]
  have m1 := Rat.mul_nonneg t0 i0
  have m2 := Rat.mul_le_mul_of_nonneg_left i1 t0
  constructor <;> grind
theorem known11 : Go.Ev.Fn CX 18 [] (.bool true) := by
  have i1 := ref2_Int 1 (by omega)
  have im := ref2_Int (-1) (by omega)
  have z1 := int_szR (n := (1 : Int)) (by omega)
  have zm := int_szR (n := (-1 : Int)) (by omega)
  rw [show ((1 : Int) : Rat) = 1 from rfl] at i1 z1
  rw [show ((-1 : Int) : Rat) = -1 from rfl] at im zm
  obtain ⟨l, h, lo, hi, fp, lh, zl, zh, thin, l0, lhh, l1, l2, en⟩ := incg_P (n := 2) (pI := 20) (P := 20) (RatA_mono (RatA_rv z1) (by omega)) (by decide) (by decide) (by omega) (by omega) (.inr rfl) (by omega)
  obtain ⟨m, lm, fe, s, hs⟩ := ref6_Exp1 (RatA_rv zm)
  obtain ⟨L0, hL⟩ := en lo Rat.le_refl lhh
  have P := p2_pos 60
  have l6 : (lim (2 ^ 60)).length ≤ 2 := lim_len_lt (by decide)
  have lm1 := lim_len_add (a := m) (b := 1) (L := 40) lm (by have := lim_len1; omega)
  have zq1 : szR (mkRat (m : Int) (2 ^ 60)) 41 := szR_nat (by omega) (by omega) (by omega)
  have zq2 : szR (mkRat ((m + 1 : Nat) : Int) (2 ^ 60)) 41 := szR_nat (by omega) (by omega) (by omega)
  have q : ∀ L, s ≤ L → mkRat (m : Int) (2 ^ 60) ≤ evX (-1) L ∧ evX (-1) L ≤ mkRat ((m + 1 : Nat) : Int) (2 ^ 60) := fun L h => mk_in (hs L h)
  have o := ref4_Of (RatA_rv z1) (by omega)
  generalize mkRat (m : Int) (2 ^ 60) = q1 at *
  generalize mkRat ((m + 1 : Nat) : Int) (2 ^ 60) = q2 at *
  have sb := ref4_SubI z1 z1 zq1 zq2 (by omega) (by omega) (by omega)
  have c1 : 1 - q2 ≤ h := by
    have a := (hL (L0 + s + 1) (by omega)).2
    have b := (igV_e (s := lo) (L := L0 + s + 1) (by omega)).1
    have c := (q (L0 + s + 1) (by omega)).2
    grind
  have c2 : l ≤ 1 - q1 := by
    refine Rat.not_lt.1 fun g => ?_
    obtain ⟨N, hN⟩ := Ex.tm_small (y := 1) (by decide) (show 0 < l - (1 - q1) by grind)
    have t := (hN (L0 + s + 1 + N) (by omega)).2
    have t0 := Ex.tm_pos (x := 1) (by decide) (L0 + s + 1 + N)
    have a := (hL (L0 + s + 1 + N) (by omega)).1
    have b := (igV_e (s := lo) (L := L0 + s + 1 + N) (by omega)).2
    have c := (q (L0 + s + 1 + N) (by omega)).1
    grind
  have gd := ref4_Good (p := 20) (P := 20) (.inr rfl) (by omega) zl zh (szR_sub z1 zq2 (by omega)) (szR_sub z1 zq1 (by omega)) (by omega) (by omega) (by omega) lh c1 c2 thin
  clear q hs en hL c1 c2
  generalize 1 - q1 = y1 at *
  generalize 1 - q2 = y2 at *
  have fp' : Go.Ev.Fn CX 16 [.int .i64 2, rv 1, .int .i64 20] (.tup [ballR l h, .bool true]) := fp
  generalize (1 : Rat) = one at *
  refine Go.Ev.Fn.intro (fn := Tryz.f18) (body := (Tryz.f18).body.get!) (by kernel_rfl) (by kernel_rfl) (by kernel_rfl) (fun _ => rfl) (Nat.le_of_ble_eq_true (by kernel_rfl)) ?_; unfold Tryz.f18; simp only [Option.get!_some]
  repeat (first | (simp only [go_sem, Nat.reduceEqDiff, Nat.reduceAdd, Nat.reduceSub, Nat.reduceMul, Nat.reduceLeDiff, Nat.reduceLT, reduceIte, reduceCtorEq, Nat.succ_ne_zero, elemsC, Int.reduceToNat, Nat.reducePow]) | (simp (disch := (first | omega | (simp only [AL, List.length_map]; omega))) only [AR, AL, ifT, ifF, take_all, List.length_cons, List.length_nil, Int.reduceToNat, Int.reducePow, Nat.reducePow]) | (refine wk_intro (by kernel_rfl) ?_) | (refine vp_draw (id := 3) (l := []) (by kernel_rfl) ?_) | (refine vf_of (by first | exact i1 | exact fp' | exact im | exact fe | exact o | exact sb | exact gd) ?_))
end Go.Proofs.YtemnjalaincijaaGreat
namespace Go.Proofs.YtemnjalaincijaaGreat
open Go.Ev
section
variable {v : SV} {x : Rat} {n : Nat} {p : Int} {P : Nat} {s : Bool} {N D : List Nat}
end
section
variable {v : SV} {x : Rat} {n : Nat} {p : Int} {P : Nat} {s : Bool} {N D : List Nat}
end
end Go.Proofs.YtemnjalaincijaaGreat
namespace Go.Proofs.YtemnjalaincijaaGreat
open Go.Ev
theorem bell_pair {y Q x lo hi r1 r2 : Rat} (hy : 0 < y) (hQ : 0 < Q) (hx : x + x = y * y) (l0 : 0 ≤ lo) (lh : lo ≤ hi) (l1 : lo * lo ≤ x) (l2 : x ≤ hi * hi) (a0 : 0 ≤ r1) (a1 : 0 ≤ r2) (a2 : r1 * r1 ≤ 2 * (Q * Q)) (a3 : 2 * (Q * Q) ≤ r2 * r2) :
    ∃ s r : Rat, lo ≤ s ∧ s ≤ hi ∧ r1 ≤ r ∧ r ≤ r2 ∧ 0 < r ∧ s * r = y * Q := by
  have yy : 0 < y * y := Rat.mul_pos hy hy
  have yQ : 0 < y * Q := Rat.mul_pos hy hQ
  have h0 : 0 < hi := by
    rcases Rat.le_total (a := hi) (b := 0) with g | g
    · have e : hi = 0 := Rat.le_antisymm g (Rat.le_trans l0 lh)
      rw [e, Rat.zero_mul] at l2; grind
    · by_cases e : hi = 0
      · rw [e, Rat.zero_mul] at l2; grind
      · grind
  obtain ⟨q, hq⟩ : ∃ q : Rat, q * hi = y * Q := ⟨y * Q / hi, Rat.div_mul_cancel (by grind)⟩
  have q0 : 0 < q := by
    rcases Rat.le_total (a := q) (b := 0) with g | g
    · have := Rat.mul_le_mul_of_nonneg_right g (Rat.le_of_lt h0); grind
    · by_cases e : q = 0
      · rw [e, Rat.zero_mul] at hq; grind
      · grind
  have big : y * Q * (y * Q) = (x + x) * (Q * Q) := by rw [hx]; grind
  have QQ : 0 ≤ Q * Q := Rat.le_of_lt (Rat.mul_pos hQ hQ)
  have k1 : q ≤ r2 := by
    refine sq_mono (Rat.le_of_lt q0) a1 (Rat.le_trans ?_ a3)
    refine le_by (Rat.mul_pos h0 h0) ?_
    have e : q * q * (hi * hi) = y * Q * (y * Q) := by rw [← hq]; grind
    rw [e, big]
    have := Rat.mul_le_mul_of_nonneg_left l2 QQ
    grind
  have k2 : r1 ≤ r2 := sq_mono a0 a1 (Rat.le_trans a2 a3)
  have k3 : lo * r1 ≤ y * Q := by
    refine sq_mono (Rat.mul_nonneg l0 a0) (Rat.le_of_lt yQ) ?_
    rw [big]
    have m := mul_le l1 a2 (by grind) (Rat.mul_nonneg a0 a0)
    have e : lo * r1 * (lo * r1) = lo * lo * (r1 * r1) := by grind
    rw [e]; grind
  have fin : ∀ r, 0 < r → q ≤ r → lo * r ≤ y * Q → ∃ s, lo ≤ s ∧ s ≤ hi ∧ s * r = y * Q := by
    intro r hr hqr hlo
    obtain ⟨s, hs⟩ : ∃ s : Rat, s * r = y * Q := ⟨y * Q / r, Rat.div_mul_cancel (by grind)⟩
    refine ⟨s, le_by hr (by rw [hs]; exact hlo), le_by hr ?_, hs⟩
    rw [hs, ← hq]
    have := Rat.mul_le_mul_of_nonneg_right hqr (Rat.le_of_lt h0)
    grind
  rcases Rat.le_total (a := r1) (b := q) with g | g
  · obtain ⟨s, s1, s2, s3⟩ := fin q q0 Rat.le_refl (by rw [← hq, Rat.mul_comm q]; exact Rat.mul_le_mul_of_nonneg_right lh (Rat.le_of_lt q0))
    exact ⟨s, q, s1, s2, g, k1, q0, s3⟩
  · obtain ⟨s, s1, s2, s3⟩ := fin r1 (by grind) g k3
    exact ⟨s, r1, s1, s2, Rat.le_refl, k2, by grind, s3⟩
theorem igV_bell {y s r x : Rat} {L : Nat} (hr : 0 < r) (h : s * r = y * SQ) (hx : x * 2 = y * y) (hx2 : x = y * y / 2) : igV 1 s x L = arV y (y * y) (y * y / 2) r L + arV y (y * y) (y * y / 2) r L := by
  have e1 : igC 1 s = s * (1 / SQ) * 2 := rfl
  have e2 : tk (x * 2) (2 + 1 % 2) (1 / 2) = 1 := rfl
  have q1 : 0 < SQ := by have := SQ_one.1; grind
  have i1 : SQ * (1 / SQ) = 1 := Ex.mul_div _ 1 (by grind)
  have i2 : r * (1 / r) = 1 := Ex.mul_div _ 1 (by grind)
  have k : s * (1 / SQ) = y * (1 / r) := by
    have a : s * (1 / SQ) = s * r * ((1 / SQ) * (1 / r)) := by
      have : s * r * ((1 / SQ) * (1 / r)) = s * (1 / SQ) * (r * (1 / r)) := by grind
      rw [this, i2, Rat.mul_one]
    rw [a, h]
    have : y * SQ * ((1 / SQ) * (1 / r)) = y * (1 / r) * (SQ * (1 / SQ)) := by grind
    rw [this, i1, Rat.mul_one]
  unfold igV arV
  rw [e1, e2, k, hx, ← hx2]
  grind
section
variable {v : SV} {z : Rat} {p : Int} {P : Nat} {s : Bool} {N D : List Nat}
theorem abs_rat (z : Rat) : ∃ y : Rat, 0 ≤ y ∧ (y = z ∨ y = -z) ∧ rv y = ratV false (lim z.num.natAbs) (lim z.den) := by
  rcases Rat.le_total (a := 0) (b := z) with g | g
  · exact ⟨z, g, .inl rfl, ervP g⟩
  · refine ⟨-z, by grind, .inr rfl, ?_⟩
    rw [ervP (show 0 ≤ -z by grind), Rat.neg_num, Rat.neg_den, Int.natAbs_neg]
theorem bell_balls (hv : RatA v z 3) (h1 : -8 ≤ z) (h8 : z ≤ 8) (hP : P ≤ 80) : ∃ y a b c d : Rat, rv y = ratV false (lim z.num.natAbs) (lim z.den) ∧ RatA (rv y) y 3 ∧
    Go.Ev.Fn CX 16 [.int .i64 1, rv (z * z * mkRat 1 2), .int .i64 (P : Int)] (.tup [ballR a b, .bool true]) ∧ Go.Ev.Fn CX 42 [rv (-y), .int .i64 ((P : Int) + 20)] (.tup [ballR c d, .bool true]) ∧
    szR a 400 ∧ szR b 400 ∧ szR c 600 ∧ szR d 600 ∧ a ≤ b ∧ (b - a) * p2 P ≤ 1 ∧ c + c ≤ 1 - a ∧ 1 - b ≤ d + d := by
  have zz := szR_of hv (by omega)
  obtain ⟨y, y0, hy, er⟩ := abs_rat z
  have yy : y * y = z * z := sq_same hy
  have zy : szR y 3 := by rcases hy with rfl | rfl; exact zz; exact szR_neg zz
  have y8 : y ≤ 8 := by rcases hy with rfl | rfl; exact h8; grind
  have zx : szR (z * z * mkRat 1 2) 7 := szR_mul (szR_mul zz zz (by omega)) half_len (by omega)
  have hh : mkRat 1 2 * 2 = 1 := by decide +kernel
  have x2 : z * z * mkRat 1 2 * 2 = y * y := by rw [yy]; grind
  have xd : z * z * mkRat 1 2 = y * y / 2 := by rw [yy, half_mk, Rat.div_def, Rat.div_def]; grind
  obtain ⟨c, d, r1, r2, f2, z3, z4, a0, a1, a2, a3, en⟩ := ref10_Phi (neg := true) (z := y) (p := P + 20) (RatA_rv (szR_neg zy)) y0 y8 (by omega)
  rw [show ((P + 20 : Nat) : Int) = (P : Int) + 20 from rfl] at f2
  have hf2 : (1 / 2 : Rat) + 1 / 2 = 1 := by decide +kernel
  by_cases e : y = 0
  · have x0 : z * z * mkRat 1 2 = 0 := by rw [← yy, e]; grind
    obtain ⟨t, ht⟩ := en r1 Rat.le_refl (sq_mono a0 a1 (Rat.le_trans a2 a3))
    have k := ht t (Nat.le_refl _)
    have e0 : arV y (y * y) (y * y / 2) r1 t = 0 := by unfold arV; rw [e, Rat.zero_mul, Rat.zero_mul, Rat.zero_mul]
    rw [if_pos rfl, e0, Rat.neg_zero, Rat.add_zero] at k
    have z0 : szR 0 400 := szR_zero (by omega)
    refine ⟨y, 0, 0, c, d, er, RatA_rv zy, ?_, f2, z0, z0, z3, z4, Rat.le_refl, by rw [Rat.sub_self, Rat.zero_mul]; decide, ?_, ?_⟩
    · rw [x0]; exact incg_Pzero (RatA_rv (szR_zero (by omega))) (by omega) (by omega)
    · clear en f2 ht; generalize (1 / 2 : Rat) = hf at *; grind
    · clear en f2 ht; generalize (1 / 2 : Rat) = hf at *; grind
  · have yp : 0 < y := by clear en; grind
    have yyp := Rat.mul_pos yp yp
    have y64 : y * y ≤ 64 := (sq_bd y0 y8).2
    obtain ⟨a, b, lo, hi, f1, ab, z1, z2, thin, l0, lh, l1, l2, en1⟩ := incg_P (n := 1) (pI := (P : Int)) (P := P) (RatA_rv zx) (by clear en; grind) (by clear en; grind) (by omega) (by omega) (.inr rfl) (by omega)
    have q1 : 0 < SQ := by clear en en1; have := SQ_one.1; grind
    obtain ⟨s, r, s1, s2, s3, s4, s5, s6⟩ := bell_pair yp q1 (show z * z * mkRat 1 2 + z * z * mkRat 1 2 = y * y by clear en en1; grind) l0 lh l1 l2 a0 a1 a2 a3
    obtain ⟨t1, g1⟩ := en1 s s1 s2
    obtain ⟨t2, g2⟩ := en r s3 s4
    have m1 := g1 (t1 + t2) (by omega)
    have m2 := g2 (t1 + t2) (by omega)
    rw [if_pos rfl] at m2
    rw [igV_bell s5 s6 x2 xd] at m1
    generalize arV y (y * y) (y * y / 2) r (t1 + t2) = V at *
    refine ⟨y, a, b, c, d, er, RatA_rv zy, f1, f2, z1, z2, z3, z4, ab, thin, ?_, ?_⟩ <;> clear en en1 g1 g2 f1 f2 <;> generalize (1 / 2 : Rat) = hf at * <;> grind
theorem ibell_out (hN : N.length ≤ 9223372036854775807) (hD : D.length ≤ 9223372036854775807) (hp : -9223372036854775808 ≤ p ∧ p < 9223372036854775808)
    (h : 3 < N.length ∨ 3 < D.length ∨ p < 0 ∨ 60 < p) : Go.Ev.Fn CX 6 [ratV s N D, .int .i64 p] (.bool true) := by
  have bg := law11_big s N D hN hD
  by_cases c0 : 3 < N.length ∨ 3 < D.length
  · rw [show (decide (3 < N.length) || decide (3 < D.length)) = true by rw [← Bool.decide_or]; exact decide_eq_true c0] at bg
    refine Go.Ev.Fn.intro (fn := Tryz.f6) (body := (Tryz.f6).body.get!) (by kernel_rfl) (by kernel_rfl) (by kernel_rfl) (fun _ => rfl) (Nat.le_of_ble_eq_true (by kernel_rfl)) ?_; unfold Tryz.f6; simp only [Option.get!_some]
    repeat (first | (simp only [go_sem, Nat.reduceEqDiff, Nat.reduceAdd, Nat.reduceSub, Nat.reduceMul, Nat.reduceLeDiff, Nat.reduceLT, reduceIte, reduceCtorEq, Nat.succ_ne_zero, elemsC, Int.reduceToNat, Nat.reducePow]) | (simp (disch := (first | omega | (simp only [AL, List.length_map]; omega))) only [AR, AL, ifT, ifF, take_all, List.length_cons, List.length_nil, Int.reduceToNat, Int.reducePow, Nat.reducePow]) | (refine wk_intro (by kernel_rfl) ?_) | (refine vp_draw (id := 8) (l := []) (by kernel_rfl) ?_) | (refine vf_of (by first | exact bg) ?_))
  rw [show (decide (3 < N.length) || decide (3 < D.length)) = false by rw [← Bool.decide_or]; exact decide_eq_false c0] at bg
  by_cases c1 : p < 0
  · refine Go.Ev.Fn.intro (fn := Tryz.f6) (body := (Tryz.f6).body.get!) (by kernel_rfl) (by kernel_rfl) (by kernel_rfl) (fun _ => rfl) (Nat.le_of_ble_eq_true (by kernel_rfl)) ?_; unfold Tryz.f6; simp only [Option.get!_some]
    repeat (first | (simp only [go_sem, Nat.reduceEqDiff, Nat.reduceAdd, Nat.reduceSub, Nat.reduceMul, Nat.reduceLeDiff, Nat.reduceLT, reduceIte, reduceCtorEq, Nat.succ_ne_zero, elemsC, Int.reduceToNat, Nat.reducePow]) | (simp (disch := (first | omega | (simp only [AL, List.length_map]; omega))) only [AR, AL, ifT, ifF, take_all, List.length_cons, List.length_nil, Int.reduceToNat, Int.reducePow, Nat.reducePow]) | (refine wk_intro (by kernel_rfl) ?_) | (refine vp_draw (id := 8) (l := []) (by kernel_rfl) ?_) | (refine vf_of (by first | exact bg) ?_))
  · have c2 : 60 < p := by omega
    refine Go.Ev.Fn.intro (fn := Tryz.f6) (body := (Tryz.f6).body.get!) (by kernel_rfl) (by kernel_rfl) (by kernel_rfl) (fun _ => rfl) (Nat.le_of_ble_eq_true (by kernel_rfl)) ?_; unfold Tryz.f6; simp only [Option.get!_some]
    repeat (first | (simp only [go_sem, Nat.reduceEqDiff, Nat.reduceAdd, Nat.reduceSub, Nat.reduceMul, Nat.reduceLeDiff, Nat.reduceLT, reduceIte, reduceCtorEq, Nat.succ_ne_zero, elemsC, Int.reduceToNat, Nat.reducePow]) | (simp (disch := (first | omega | (simp only [AL, List.length_map]; omega))) only [AR, AL, ifT, ifF, take_all, List.length_cons, List.length_nil, Int.reduceToNat, Int.reducePow, Nat.reducePow]) | (refine wk_intro (by kernel_rfl) ?_) | (refine vp_draw (id := 8) (l := []) (by kernel_rfl) ?_) | (refine vf_of (by first | exact bg) ?_))
theorem ibell_far (hv : RatA (ratV s N D) z 3) (h1 : N.length ≤ 3) (h2 : D.length ≤ 3) (hp : 0 ≤ p ∧ p ≤ 60) (far : z < -8 ∨ 8 < z) : Go.Ev.Fn CX 6 [ratV s N D, .int .i64 p] (.bool true) := by
  have bg := law11_big s N D (by omega) (by omega)
  rw [decide_eq_false (by omega), decide_eq_false (by omega), Bool.or_false] at bg
  have fr := ref10_Far hv (by omega) (by omega) far
  clear far hv
  refine Go.Ev.Fn.intro (fn := Tryz.f6) (body := (Tryz.f6).body.get!) (by kernel_rfl) (by kernel_rfl) (by kernel_rfl) (fun _ => rfl) (Nat.le_of_ble_eq_true (by kernel_rfl)) ?_; unfold Tryz.f6; simp only [Option.get!_some]
  repeat (first | (simp only [go_sem, Nat.reduceEqDiff, Nat.reduceAdd, Nat.reduceSub, Nat.reduceMul, Nat.reduceLeDiff, Nat.reduceLT, reduceIte, reduceCtorEq, Nat.succ_ne_zero, elemsC, Int.reduceToNat, Nat.reducePow]) | (simp (disch := (first | omega | (simp only [AL, List.length_map]; omega))) only [AR, AL, ifT, ifF, take_all, List.length_cons, List.length_nil, Int.reduceToNat, Int.reducePow, Nat.reducePow]) | (refine wk_intro (by kernel_rfl) ?_) | (refine vp_draw (id := 8) (l := []) (by kernel_rfl) ?_) | (refine vf_of (by first | exact bg | exact fr) ?_))
set_option maxHeartbeats 1000000 in
theorem ibell_in (hv : RatA (ratV s N D) z 3) (h1 : N.length ≤ 3) (h2 : D.length ≤ 3) (hP : P ≤ 60) (g1 : -8 ≤ z) (g2 : z ≤ 8) : Go.Ev.Fn CX 6 [ratV s N D, .int .i64 (P : Int)] (.bool true) := by
  have bg := law11_big s N D (by omega) (by omega)
  rw [decide_eq_false (by omega), decide_eq_false (by omega), Bool.or_false] at bg
  have kn := known11
  have fr := ref10_nigh hv (by omega) (by omega) g1 g2
  have zz := szR_of hv (by omega)
  have mu := ref2_Mul hv hv (by omega) (by omega) (by omega)
  have oh := ref2_Of false [1] [2] (by simp [okL]) (by simp [okL]) (by simp) (by simp)
  rw [show wth [1] = 1 from rfl, show wth [2] = 2 from rfl] at oh
  have oh' : Go.Ev.Fn CX 30 [.bool false, .sl 1 [.int .u32 1], .sl 1 [.int .u32 2]] (rv (mkRat 1 2)) := oh
  clear oh
  have zq := szR_mul zz zz (by omega)
  have mu2 := ref2_Mul (RatA_rv zq) (RatA_rv half_len) (by omega) (by omega) (by omega)
  have zx := szR_mul zq half_len (by omega)
  have nm := ref2_Norm hv (by omega)
  obtain ⟨y, a, b, c, d, er, hy, f1, f2, z1, z2, z3, z4, k1, k2, k3, k4⟩ := bell_balls (P := P) hv g1 g2 (by omega)
  have f3 := incg_Q (RatA_rv zx) z1 z2 f1
  have f4 := ref10_Tail hy f2
  have u : szR 1 1 := unit_len
  have ad := ref4_AddE z3 z4 z3 z4 (by omega) (by omega) (by omega)
  have gd := ref4_Good (p := (P : Int)) (P := P) (.inr rfl) (by omega) (szR_sub u z2 (by omega)) (szR_sub u z1 (by omega)) (szR_add z3 z3 (by omega)) (szR_add z4 z4 (by omega)) (by omega) (by omega) (by omega) (show 1 - b ≤ 1 - a by grind) k3 k4 (by rw [show 1 - a - (1 - b) = b - a by grind]; exact k2)
  have nm' : Go.Ev.Fn CX 31 [ratV s N D] (ratV (decide (z.num < 0)) (lim z.num.natAbs) (lim z.den)) := nm
  rw [er] at f4
  clear k1 k2 k3 k4 z1 z2 z3 z4 g1 g2 hv nm er hy f1 f2 zq zx zz
  generalize lim z.num.natAbs = n' at *
  generalize lim z.den = d' at *
  generalize decide (z.num < 0) = sg at *
  generalize z * z * mkRat 1 2 = x at *
  generalize z * z = z2 at *
  generalize mkRat 1 2 = hf at *
  generalize c + c = c2 at *
  generalize d + d = d2 at *
  generalize 1 - a = a' at *
  generalize 1 - b = b' at *
  refine Go.Ev.Fn.intro (fn := Tryz.f6) (body := (Tryz.f6).body.get!) (by kernel_rfl) (by kernel_rfl) (by kernel_rfl) (fun _ => rfl) (Nat.le_of_ble_eq_true (by kernel_rfl)) ?_; unfold Tryz.f6; simp only [Option.get!_some]
  repeat (first | (simp only [go_sem, Nat.reduceEqDiff, Nat.reduceAdd, Nat.reduceSub, Nat.reduceMul, Nat.reduceLeDiff, Nat.reduceLT, reduceIte, reduceCtorEq, Nat.succ_ne_zero, elemsC, Int.reduceToNat, Nat.reducePow]) | (simp (disch := (first | omega | (simp only [AL, List.length_map]; omega))) only [AR, AL, ifT, ifF, take_all, List.length_cons, List.length_nil, Int.reduceToNat, Int.reducePow, Nat.reducePow]) | (refine wk_intro (by kernel_rfl) ?_) | (refine vp_draw (id := 8) (l := []) (by kernel_rfl) ?_) | (refine vf_of (by first | exact bg | exact fr | exact mu | exact oh' | exact mu2 | exact f3 | exact nm' | exact f4 | exact ad | exact gd | exact kn) ?_))
end
set_option maxRecDepth 100000 in
theorem ibell_law (ss0 : List SV) (sh0 : ShpT Tryz.prog 6 24 ss0) (p : Int) (w1 : (Lit.int .i64 p).wf = true) :
    Go.Ev.Fn CX 6 [.agg ss0, .int .i64 p] (.bool true) := by
  obtain ⟨s, N, D, rfl, hN, hD, lN, lD⟩ := shp_rat (n := 3) sh0
  have r1 := wf_int64E w1
  have mx : maxLen ≤ 9223372036854775807 := by decide
  by_cases c : 3 < N.length ∨ 3 < D.length ∨ p < 0 ∨ 60 < p
  · exact ibell_out (Nat.le_trans lN mx) (Nat.le_trans lD mx) r1 c
  have c1 : N.length ≤ 3 := Nat.not_lt.1 fun h => c (.inl h)
  have c2 : D.length ≤ 3 := Nat.not_lt.1 fun h => c (.inr (.inl h))
  obtain ⟨z, hv⟩ : ∃ x : Rat, RatA (ratV s N D) x 3 := ⟨_, s, N, D, rfl, hN, hD, c1, c2, rfl⟩
  by_cases far : z < -8 ∨ 8 < z
  · exact ibell_far hv c1 c2 (by omega) far
  · obtain ⟨P, rfl⟩ : ∃ P : Nat, p = (P : Int) := ⟨p.toNat, by omega⟩
    exact ibell_in hv c1 c2 (by omega) (Rat.not_lt.1 fun h => far (.inl h)) (Rat.not_lt.1 fun h => far (.inr h))
end Go.Proofs.YtemnjalaincijaaGreat
