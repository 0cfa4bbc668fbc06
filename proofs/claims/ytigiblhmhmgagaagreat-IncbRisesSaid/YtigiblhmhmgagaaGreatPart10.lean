/- Part 10 of the proof: the evaluator, contracts of functions and their plain laws (joined by program). No condition. -/
import Derived.Test.YtigiblhmhmgagaaGreatPart9
/- incb.power and first of any halves, in the evaluator. -/
namespace Go.Proofs.YtigiblhmhmgagaaGreat
set_option linter.unusedSimpArgs false
set_option linter.unusedVariables false
set_option maxRecDepth 8000
open Go.Ev
set_option linter.unusedVariables false
theorem incb_pow {q : Rat} {n w L : Nat} (hn : n ≤ 30) (hz : szR q L) (hL1 : 1 ≤ L) (hL : L ≤ 250) (h0 : 0 ≤ q) (h1 : q ≤ 1) (hw : w ≤ 512) (hw0 : 60 ≤ w) :
    ∃ X1 X2 : Nat, ∃ s1 s2 : Rat, Go.Ev.Fn CX 95 [.int .i64 (n : Int), rv q, .int .i64 (w : Int)] (spanV X1 X2) ∧ okS (2 ^ w) X1 X2 1100 ∧ 0 ≤ s1 ∧ s1 ≤ s2 ∧ s1 * s1 ≤ q ∧ q ≤ s2 * s2 ∧
      ∀ s, s1 ≤ s → s ≤ s2 → Enc w X1 X2 (pwR q (n / 2) * (if n % 2 = 1 then s else 1)) := by
  have k1 := okS_pw (A := n / 2) (w := w) h0 h1 (by omega)
  have pe : Enc w (pwN q (n / 2) w).1 (pwN q (n / 2) w).2 (pwR q (n / 2)) := by
    have one : Enc w (2 ^ w) (2 ^ w + 1) 1 := by
      refine ⟨by rw [Rat.one_mul]; exact Rat.le_refl, ?_⟩
      rw [Rat.one_mul]
      exact_mod_cast Nat.le_succ (2 ^ w)
    have un : Enc w (unN q w) (unN q w + 1) q := by
      have := unN_le h0 w
      exact ⟨this.1, this.2⟩
    have h := powGo_enc 4 (n / 2) _ _ _ _ (by omega) one un
    rw [Rat.one_mul] at h
    exact h
  by_cases hod : n % 2 = 1
  · obtain ⟨lo, hi, f, g1, g2, g3, g4, g5, y1, y2⟩ := root_Sqrt (p := w) (RatA_rv hz) h0 hL1 (by omega) (by omega)
    have lo1 : lo ≤ 1 := by
      rcases Rat.le_total (a := lo) (b := 1) with g | g
      · exact g
      · have a1 := Rat.mul_le_mul_of_nonneg_left g g1
        grind
    have r : Go.Ev.Fn CX 55 [rv q, .int .i64 (w : Int)] (spanV (unN q w) (unN q w + 1)) := fix_Rat hz (by omega) (w := w) (by omega)
    obtain ⟨l1, l2⟩ := unN_len1 h0 h1 (show w ≤ 900 by omega)
    have p : Go.Ev.Fn CX 126 [spanV (unN q w) (unN q w + 1), .int .i64 ((n / 2 : Nat) : Int), .int .i64 (w : Int)] (spanV (pwN q (n / 2) w).1 (pwN q (n / 2) w).2) := fix_Power (a1 := unN q w) (a2 := unN q w + 1) (n := n / 2) (w := w) (F := 4) (by omega) (by omega) (by omega) l2 (by omega) (by omega)
    have bb := fix_Ball (w := w) y1 y2 (by omega) (by omega)
    have k2 := ball_okS (w := w) g1 g2 lo1 g5
    have hP : 2 ^ 60 ≤ 2 ^ w := Nat.pow_le_pow_right (n := 2) (by omega) hw0
    have k3 := okS_mul2 (by omega) (by omega) (by omega) k1 k2
    obtain ⟨a1, a2⟩ := okS_len k1 (by omega) (show w ≤ 900 by omega) (by omega)
    obtain ⟨b1, b2⟩ := okS_len k2 (by omega) (show w ≤ 900 by omega) (by omega)
    have mu := fix_Mul (a := (pwN q (n / 2) w).1) (b := (pwN q (n / 2) w).2) (c := unN lo w) (d := unN hi w + 1) (w := w) (by omega) (by omega) (by omega) (by omega) (by omega) (by omega)
    refine ⟨_, _, lo, hi, ?_, okS_mono k3 (by omega), g1, g2, g3, g4, ?_⟩
    · have an := and_one64 (a := n) (by omega)
      rw [hod] at an
      have td : (n : Int).tdiv 2 = ((n / 2 : Nat) : Int) := _root_.id rfl
      clear k1 k2 k3 pe g1 g2 g3 g4 g5
      generalize (pwN q (n / 2) w).1 * unN lo w / 2 ^ w = Z1 at *
      generalize (pwN q (n / 2) w).2 * (unN hi w + 1) / 2 ^ w + 1 = Z2 at *
      generalize (pwN q (n / 2) w).1 = x at *
      generalize (pwN q (n / 2) w).2 = y at *
      generalize unN hi w + 1 = u2 at *
      generalize unN lo w = u1 at *
      generalize unN q w = u at *
      refine Go.Ev.Fn.intro (fn := Tryz.f95) (body := (Tryz.f95).body.get!) (by kernel_rfl) (by kernel_rfl) (by kernel_rfl) (fun _ => rfl) (Nat.le_of_ble_eq_true (by kernel_rfl)) ?_; unfold Tryz.f95; simp only [Option.get!_some]
      repeat (first | (simp only [go_sem, Nat.reduceEqDiff, Nat.reduceAdd, Nat.reduceSub, Nat.reduceMul, Nat.reduceLeDiff, Nat.reduceLT, reduceIte, reduceCtorEq, Nat.succ_ne_zero, elemsC, Int.reduceToNat, Nat.reducePow, an, td]) | (simp (disch := (first | omega | (simp only [AL, List.length_map]; omega))) only [AR, AL, ifT, ifF, take_all, List.length_cons, List.length_nil, Int.reduceToNat, Int.reducePow, Nat.reducePow, an, td]) | (refine wk_intro (by kernel_rfl) ?_) | (refine vp_draw (id := 4) (l := []) (by kernel_rfl) ?_) | (refine vf_of (by first | exact r | exact p | exact f | exact bb | exact mu) ?_))
    · intro s hs1 hs2
      rw [if_pos hod]
      exact enc_mul pe (ball_enc g1 hs1 hs2 w)
  · have h := incb_power (A := n / 2) (w := w) (by omega) hz (by omega) (unN_len1 h0 h1 (show w ≤ 900 by omega)) (by omega) (by omega)
    rw [show 2 * ((n / 2 : Nat) : Int) = (n : Int) by omega] at h
    refine ⟨_, _, 0, 1, h, okS_mono k1 (by omega), Rat.le_refl, by decide, by rw [Rat.zero_mul]; exact h0, by rw [Rat.mul_one]; exact h1, ?_⟩
    intro s _ _
    rw [if_neg hod, Rat.mul_one]
    exact pe
/-- Pi, as the kernel has it. -/
def PI0 : Rat := mkRat (piW : Int) (2 ^ 700)
theorem mk_p2n (a p : Nat) : mkRat (a : Int) (2 ^ p) * p2 p = (a : Rat) := mk_mulP (a : Int) (Nat.pow_pos (by omega))
theorem PI0_mul : PI0 * p2 700 = (piW : Rat) := mk_p2n piW 700
theorem p2_plus (a b : Nat) : p2 (a + b) = p2 a * p2 b := by
  have : ((2 ^ a : Nat) : Rat) * ((2 ^ b : Nat) : Rat) = ((2 ^ a * 2 ^ b : Nat) : Rat) := by exact_mod_cast rfl
  show ((2 ^ (a + b) : Nat) : Rat) = ((2 ^ a : Nat) : Rat) * ((2 ^ b : Nat) : Rat)
  rw [this, Nat.pow_add]
theorem pi_lo {a p : Nat} (hp : p ≤ 700) (h : a * 2 ^ (700 - p) ≤ piW) : (a : Rat) ≤ PI0 * p2 p := by
  refine le_by (p2_pos (700 - p)) ?_
  have e : PI0 * p2 p * p2 (700 - p) = (piW : Rat) := by
    rw [← PI0_mul, Rat.mul_assoc, ← p2_plus, show p + (700 - p) = 700 by omega]
  rw [e]
  have e2 : (a : Rat) * p2 (700 - p) = ((a * 2 ^ (700 - p) : Nat) : Rat) := by exact_mod_cast rfl
  rw [e2]
  exact_mod_cast h
theorem pi_hi {a p : Nat} (hp : p ≤ 700) (h : piW ≤ a * 2 ^ (700 - p)) : PI0 * p2 p ≤ (a : Rat) := by
  refine le_by (p2_pos (700 - p)) ?_
  have e : PI0 * p2 p * p2 (700 - p) = (piW : Rat) := by
    rw [← PI0_mul, Rat.mul_assoc, ← p2_plus, show p + (700 - p) = 700 by omega]
  rw [e]
  have e2 : (a : Rat) * p2 (700 - p) = ((a * 2 ^ (700 - p) : Nat) : Rat) := by exact_mod_cast rfl
  rw [e2]
  exact_mod_cast h
/-- Pi, to as many digits as beta's share wants. -/
theorem arcs_Pi2 {p : Nat} (h1 : 300 ≤ p) (h2 : p ≤ 380) : ∃ a : Nat, Go.Ev.Fn CX 99 [.int .i64 (p : Int)] (ballR (mkRat (a : Int) (2 ^ p)) (mkRat ((a + 1 : Nat) : Int) (2 ^ p))) ∧ (a : Rat) ≤ PI0 * p2 p ∧ PI0 * p2 p ≤ ((a + 1 : Nat) : Rat) ∧ 2 * 2 ^ p ≤ a ∧ a ≤ 4 * 2 ^ p := by
  have h := allFrom_at pi_ok2 p h1 (by omega)
  unfold piOk2 at h
  split at h
  · rename_i lo hi hpi
    rw [pin_eq, Bool.and_eq_true, Bool.and_eq_true] at h
    obtain ⟨k1, k2, k3⟩ := h
    have k1 := Nat.eq_of_beq_eq_true k1
    have k2 := Nat.le_of_ble_eq_true k2
    have k3 := Nat.le_of_ble_eq_true k3
    obtain ⟨f, g1, g2⟩ := arcs_pi (by omega) (by omega) hpi
    have c := fix_Certain1 (p := p) (sp := 64) f (by omega) (by omega) (by omega) (by omega) (by omega) k1
    have hh := arcs_held (p : Int)
    rw [if_neg (by omega), if_neg (by omega)] at hh
    have sp : 2 ^ 700 = 2 ^ p * 2 ^ (700 - p) := by rw [← Nat.pow_add]; congr 1; omega
    have q0 : 0 < 2 ^ (700 - p) := Nat.pow_pos (by omega)
    have z3 : 3 * 2 ^ 700 ≤ piW := by decide +kernel
    have z4 : piW ≤ 4 * 2 ^ 700 := by decide +kernel
    have b1 : 2 * 2 ^ p ≤ lo / 2 ^ 64 := by
      have x1 : 3 * 2 ^ p * 2 ^ (700 - p) ≤ (lo / 2 ^ 64 + 1) * 2 ^ (700 - p) := by rw [Nat.mul_assoc, ← sp]; exact Nat.le_trans z3 k3
      have x2 := Nat.le_of_mul_le_mul_right x1 q0
      have x3 : 0 < 2 ^ p := Nat.pow_pos (by omega)
      omega
    have b2 : lo / 2 ^ 64 ≤ 4 * 2 ^ p := by
      have x1 : lo / 2 ^ 64 * 2 ^ (700 - p) ≤ 4 * 2 ^ p * 2 ^ (700 - p) := by rw [Nat.mul_assoc 4, ← sp]; exact Nat.le_trans k2 z4
      exact Nat.le_of_mul_le_mul_right x1 q0
    refine ⟨lo / 2 ^ 64, ?_, pi_lo (by omega) k2, pi_hi (by omega) k3, b1, b2⟩
    clear k2 k3 f hpi b1 b2 sp z3 z4
    generalize mkRat ((lo / 2 ^ 64 : Nat) : Int) (2 ^ p) = q1 at *
    generalize mkRat ((lo / 2 ^ 64 + 1 : Nat) : Int) (2 ^ p) = q2 at *
    refine Go.Ev.Fn.intro (fn := Tryz.f99) (body := (Tryz.f99).body.get!) (by kernel_rfl) (by kernel_rfl) (by kernel_rfl) (fun _ => rfl) (Nat.le_of_ble_eq_true (by kernel_rfl)) ?_; unfold Tryz.f99; simp only [Option.get!_some]
    repeat (first | (simp only [go_sem, Nat.reduceEqDiff, Nat.reduceAdd, Nat.reduceSub, Nat.reduceMul, Nat.reduceLeDiff, Nat.reduceLT, reduceIte, reduceCtorEq, Nat.succ_ne_zero, elemsC, Int.reduceToNat, Nat.reducePow]) | (simp (disch := (first | omega | (simp only [AL, List.length_map]; omega))) only [AR, AL, ifT, ifF, take_all, List.length_cons, List.length_nil, Int.reduceToNat, Int.reducePow, Nat.reducePow]) | (refine wk_intro (by kernel_rfl) ?_) | (refine vf_of (by first | exact hh | exact c) ?_))
  · cases h
theorem inv_gap {P a : Nat} (hP : 4 ≤ P) (ha : 2 * P ≤ a) : okS P (P * P / (a + 2)) (P * P / a + 1) 3 := by
  have u1 : P * P / (a + 2) ≤ P / 2 := by
    rw [Nat.div_le_iff_le_mul (by omega)]
    have h1 : 2 * (P * P) ≤ (P) * (a + 2) := by
      have := Nat.mul_le_mul_left P (show 2 * P ≤ a + 2 by omega)
      rw [Nat.mul_left_comm] at this
      exact this
    have h2 : P * (a + 2) ≤ (2 * (P / 2) + 1) * (a + 2) := Nat.mul_le_mul_right _ (by omega)
    have h3 : (2 * (P / 2) + 1) * (a + 2) = 2 * (P / 2 * (a + 2)) + (a + 2) := by rw [Nat.add_mul, Nat.mul_assoc, Nat.one_mul]
    omega
  have d1 := Nat.div_add_mod (P * P) (a + 2)
  have d2 := Nat.mod_lt (P * P) (show 0 < a + 2 by omega)
  generalize hu : P * P / (a + 2) = u at *
  have v1 : P * P / a ≤ u + 2 := by
    refine Nat.le_of_lt_succ ((Nat.div_lt_iff_lt_mul (by omega)).2 ?_)
    have e1 : (a + 2) * u = a * u + 2 * u := Nat.add_mul _ _ _
    have e2 : (u + 2).succ * a = a * u + 3 * a := by
      rw [show (u + 2).succ = u + 3 by omega, Nat.add_mul, Nat.mul_comm u a]
    omega
  refine ⟨?_, by omega, by omega⟩
  have := Nat.div_le_div_left (show a ≤ a + 2 by omega) (show 0 < a by omega) (a := P * P)
  omega
end Go.Proofs.YtigiblhmhmgagaaGreat

/- incb.first of any halves, in the evaluator. -/
namespace Go.Proofs.YtigiblhmhmgagaaGreat
set_option linter.unusedSimpArgs false
set_option linter.unusedVariables false
set_option maxRecDepth 8000
open Go.Ev
set_option linter.unusedVariables false
theorem gap_mul {P U1 U2 i1 i2 g T : Nat} (hP : 4 ≤ P) (h1 : U1 ≤ U2) (h2 : U2 ≤ U1 + g) (h3 : U2 ≤ T * P) (h : okS P i1 i2 3) : U1 * i1 / P ≤ U2 * i2 / P + 1 ∧ U2 * i2 / P + 1 ≤ U1 * i1 / P + (2 * g + 3 * T + 3) ∧ U2 * i2 / P + 1 ≤ 2 * (T * P) + 1 := by
  obtain ⟨k1, k2, k3⟩ := h
  have hP0 : 0 < P := by omega
  refine ⟨Nat.le_succ_of_le (Nat.div_le_div_right (Nat.mul_le_mul h1 k1)), ?_, ?_⟩
  · have d1 := Nat.div_add_mod (U1 * i1) P
    have d2 := Nat.mod_lt (U1 * i1) hP0
    have e1 : U2 * i2 ≤ U1 * i1 + (g * i2 + U2 * 3) := by
      have x1 : U2 * i2 ≤ (U1 + g) * i2 := Nat.mul_le_mul_right i2 h2
      have x2 : U1 * i2 ≤ U1 * (i1 + 3) := Nat.mul_le_mul_left U1 k2
      rw [Nat.add_mul] at x1
      rw [Nat.mul_add] at x2
      omega
    have e2 : g * i2 ≤ g * (2 * P) := Nat.mul_le_mul_left g (by omega)
    have e4 : U2 * i2 < (U1 * i1 / P + (2 * g + 3 * T + 1)) * P := by
      have y1 : (U1 * i1 / P + (2 * g + 3 * T + 1)) * P = P * (U1 * i1 / P) + (g * (2 * P) + 3 * (T * P) + P) := by
        rw [Nat.add_mul, Nat.mul_comm _ P]
        congr 1
        grind
      omega
    have := (Nat.div_lt_iff_lt_mul hP0).2 e4
    omega
  · have e1 : U2 * i2 ≤ U2 * (2 * P) := Nat.mul_le_mul_left _ (by omega)
    have e2 : U2 * (2 * P) ≤ T * P * (2 * P) := Nat.mul_le_mul_right _ h3
    have e3 : T * P * (2 * P) = 2 * (T * P) * P := by grind
    have : U2 * i2 / P ≤ 2 * (T * P) := Nat.div_le_of_le_mul (by rw [Nat.mul_comm P]; omega)
    omega
/-- A whole number of units. -/
theorem unN_exact (A w : Nat) : unN (mkRat (A : Int) (2 ^ w)) w = A := by
  have y1 := mk_p2n A w
  have PW := p2_pos w
  have m0 : 0 ≤ mkRat (A : Int) (2 ^ w) := le_by PW (by rw [y1, Rat.zero_mul]; exact nat_nonneg A)
  generalize mkRat (A : Int) (2 ^ w) = q at *
  have h := num_den q
  have h2 : ((q.num.natAbs : Nat) : Rat) = (q.num : Rat) := by
    have : (q.num.natAbs : Int) = q.num := Int.natAbs_of_nonneg (Rat.num_nonneg.2 m0)
    rw [← this]; rfl
  have e : ((q.num.natAbs * 2 ^ w : Nat) : Rat) = ((A * q.den : Nat) : Rat) := by
    have c1 : ((q.num.natAbs * 2 ^ w : Nat) : Rat) = ((q.num.natAbs : Nat) : Rat) * p2 w := by exact_mod_cast rfl
    have c2 : ((A * q.den : Nat) : Rat) = (A : Rat) * (q.den : Rat) := by exact_mod_cast rfl
    rw [c1, c2, h2, ← h, ← y1]
    grind
  have e2 : q.num.natAbs * 2 ^ w = A * q.den := by exact_mod_cast e
  show q.num.natAbs * 2 ^ w / q.den = A
  rw [e2, Nat.mul_div_cancel _ q.den_pos]
def betOk (a b : Nat) : Bool := Nat.ble ((beta2 a b).den * 2) (1048576 * ((beta2 a b).num.natAbs * a)) && Nat.ble 1 (beta2 a b).num.natAbs
theorem bets_ok : (List.range 20).all (fun a => (List.range 20).all fun b => betOk (a + 1) (b + 1)) = true := by decide +kernel
theorem bet_ok {a b : Nat} (h1 : 1 ≤ a) (h2 : 1 ≤ b) (h3 : a ≤ 20) (h4 : b ≤ 20) : (beta2 a b).den * 2 ≤ 1048576 * ((beta2 a b).num.natAbs * a) ∧ 0 < (beta2 a b).num.natAbs * a := by
  have h := List.all_eq_true.1 bets_ok (a - 1) (List.mem_range.2 (by omega))
  have h' := List.all_eq_true.1 h (b - 1) (List.mem_range.2 (by omega))
  rw [show a - 1 + 1 = a by omega, show b - 1 + 1 = b by omega] at h'
  unfold betOk at h'
  rw [Bool.and_eq_true] at h'
  exact ⟨Nat.le_of_ble_eq_true h'.1, Nat.mul_pos (Nat.le_of_ble_eq_true h'.2) (by omega)⟩
/-- A row's first term, from points that the roots' balls have. -/
def fstR (a b : Nat) (x sx sy : Rat) : Rat :=
  (pwR x (a / 2) * (if a % 2 = 1 then sx else 1)) * (pwR (1 - x) (b / 2) * (if b % 2 = 1 then sy else 1)) * (((beta2 a b).den * 2 : Nat) : Rat) / (((beta2 a b).num.natAbs * a : Nat) : Rat) * (if a % 2 * (b % 2) = 1 then 1 / PI0 else 1)
set_option maxHeartbeats 1000000 in
theorem incb_fst {x : Rat} {a b w L : Nat} (ha : 1 ≤ a) (ha2 : a ≤ 20) (hb : 1 ≤ b) (hb2 : b ≤ 20) (hz : szR x L) (hL1 : 1 ≤ L) (hL : L ≤ 200) (h0 : 0 ≤ x) (h1 : x ≤ 1) (hw0 : 300 ≤ w) (hw : w ≤ 380) :
    ∃ F1 F2 : Nat, ∃ p1 p2' q1 q2 : Rat, Go.Ev.Fn CX 56 [.int .i64 (a : Int), .int .i64 (b : Int), rv x, .int .i64 (w : Int)] (spanV F1 F2) ∧ F1 ≤ F2 ∧ F2 ≤ F1 + 2 ^ 45 ∧ F2 ≤ 2 ^ (w + 25) ∧
      p1 ≤ p2' ∧ 0 ≤ p1 ∧ p1 * p1 ≤ x ∧ x ≤ p2' * p2' ∧ q1 ≤ q2 ∧ 0 ≤ q1 ∧ q1 * q1 ≤ 1 - x ∧ 1 - x ≤ q2 * q2 ∧
      ∀ sx sy, p1 ≤ sx → sx ≤ p2' → q1 ≤ sy → sy ≤ q2 → Enc w F1 F2 (fstR a b x sx sy) := by
  have one1 : szR 1 1 := ⟨lim_len_lt (by decide +kernel), lim_len_lt (by decide +kernel)⟩
  have zy := szR_sub one1 hz (by omega)
  obtain ⟨X1, X2, p1, p2', f1, k1, a0, a1, a2, a3, ex⟩ := incb_pow (n := a) (w := w) (by omega) hz hL1 (by omega) h0 h1 (by omega) (by omega)
  obtain ⟨Y1, Y2, q1, q2, f2, k2, b0, b1, b2, b3, ey⟩ := incb_pow (n := b) (w := w) (by omega) zy (by omega) (by omega) (show 0 ≤ 1 - x by clear f1 k1 ex; grind) (show 1 - x ≤ 1 by clear f1 k1 ex; grind) (by omega) (by omega)
  have i1 := rat_Int 1 (by omega)
  have sb := rat_Sub (RatA_rv one1) (RatA_rv hz) (by omega) hL1 (by omega)
  rw [show ((1 : Int) : Rat) = 1 from rfl] at i1
  have hP : 2 ^ 60 ≤ 2 ^ w := Nat.pow_le_pow_right (n := 2) (by omega) (by omega)
  obtain ⟨lx1, lx2⟩ := okS_len k1 (by omega) (show w ≤ 900 by omega) (by omega)
  obtain ⟨ly1, ly2⟩ := okS_len k2 (by omega) (show w ≤ 900 by omega) (by omega)
  have mu := fix_Mul (a := X1) (b := X2) (c := Y1) (d := Y2) (w := w) (by omega) (by omega) (by omega) (by omega) (by omega) (by omega)
  have k3 := okS_mul2 (by omega) (by omega) (by omega) k1 k2
  have em := fun sx sy (u1 : p1 ≤ sx) (u2 : sx ≤ p2') (v1 : q1 ≤ sy) (v2 : sy ≤ q2) => enc_mul (ex sx u1 u2) (ey sy v1 v2)
  generalize X1 * Y1 / 2 ^ w = M1 at *
  generalize X2 * Y2 / 2 ^ w + 1 = M2 at *
  obtain ⟨lm1, lm2⟩ := okS_len k3 (by omega) (show w ≤ 900 by omega) (by omega)
  have be := gam_Beta a b ha (by omega) hb (by omega)
  obtain ⟨c1, c2⟩ := bet_ok ha hb ha2 hb2
  obtain ⟨z1, z2⟩ := beta2_size (a := a) (b := b) (by omega) (by omega)
  have o2 := nat_Of 2 (by omega)
  have oa := nat_Of a (by omega)
  have l2 : (lim 2).length ≤ 1 := lim_len_one (by decide)
  have la : (lim a).length ≤ 1 := lim_len_one (by omega)
  have m1 := nat_MulL (N := (beta2 a b).den) (D := 2) (by omega) (by omega)
  have m2 := nat_MulL (N := (beta2 a b).num.natAbs) (D := a) (by omega) (by omega)
  have ln1 := lim_len_mul (a := (beta2 a b).den) (b := 2)
  have ln2 := lim_len_mul (a := (beta2 a b).num.natAbs) (b := a)
  have ti := fix_Times (a := M1) (b := M2) (n := (beta2 a b).den * 2) (d := (beta2 a b).num.natAbs * a) (by omega) (by omega) (by omega) (by omega) (by omega)
  have et := fun sx sy (u1 : p1 ≤ sx) (u2 : sx ≤ p2') (v1 : q1 ≤ sy) (v2 : sy ≤ q2) => enc_times (n := (beta2 a b).den * 2) (d := (beta2 a b).num.natAbs * a) c2 (em sx sy u1 u2 v1 v2)
  have gs := quo_sub (n := (beta2 a b).den * 2) (m := (beta2 a b).num.natAbs * a) k3.1 c2
  have gq := quo_le (v := M2 - M1) (n := (beta2 a b).den * 2) (m := (beta2 a b).num.natAbs * a) (c := 1048576) (d := 1) c2 (by omega)
  have gr := quo_le (v := M2) (n := (beta2 a b).den * 2) (m := (beta2 a b).num.natAbs * a) (c := 1048576) (d := 1) c2 (by omega)
  have gm : M1 * ((beta2 a b).den * 2) / ((beta2 a b).num.natAbs * a) ≤ M2 * ((beta2 a b).den * 2) / ((beta2 a b).num.natAbs * a) := Nat.div_le_div_right (Nat.mul_le_mul_right _ k3.1)
  have k31 := k3.1
  have k32 := k3.2.1
  have k33 := k3.2.2
  have hw25 : 2 ^ (w + 25) = 2 ^ w * 33554432 := by rw [Nat.pow_add]
  unfold fstR
  generalize hb2' : beta2 a b = be2 at *
  generalize hn2 : be2.den * 2 = D2 at *
  generalize hd2 : be2.num.natAbs * a = N2 at *
  generalize M1 * D2 / N2 = U1 at *
  generalize hU2 : M2 * D2 / N2 + 1 = U2 at *
  have gap : U2 ≤ U1 + 8589934592 := by omega
  have top : U2 ≤ 2097152 * 2 ^ w := by omega
  have hw46 : 2 ^ (w + 22) = 2097152 * 2 * 2 ^ w := by rw [Nat.pow_add, Nat.mul_comm]
  have lu2 := lim_len_p2 (n := U2) (w := w + 22) (by omega) (by omega)
  have lu1 := lim_len_mono (show U1 ≤ U2 by omega)
  by_cases hpi : a % 2 * (b % 2) = 1
  · obtain ⟨A, fp, g1, g2, g3, g4⟩ := arcs_Pi2 (p := w) hw0 hw
    generalize PI0 = W0 at *
    have u1 := unN_exact A w
    have u2 := unN_exact (A + 1) w
    have sA : szR (mkRat (A : Int) (2 ^ w)) 45 ∧ szR (mkRat ((A + 1 : Nat) : Int) (2 ^ w)) 45 := by
      have hb3 : 2 ^ (w + 3) = 8 * 2 ^ w := by rw [Nat.pow_add, Nat.mul_comm]
      have x1 := lim_len_p2 (n := A) (w := w + 3) (by omega) (by omega)
      have x2 := lim_len_p2 (n := A + 1) (w := w + 3) (by omega) (by omega)
      have x3 := lim_len_p2 (n := 2 ^ w) (w := w) (Nat.le_refl _) (by omega)
      exact ⟨szR_nat (by omega) (by omega) (by omega), szR_nat (by omega) (by omega) (by omega)⟩
    have bl := fix_Ball (w := w) sA.1 sA.2 (by omega) (by omega)
    rw [u1, u2] at bl
    have hb3 : 2 ^ (w + 3) = 8 * 2 ^ w := by rw [Nat.pow_add, Nat.mul_comm]
    have x1 := lim_len_p2 (n := A) (w := w + 3) (by omega) (by omega)
    have x2 := lim_len_p2 (n := A + 1 + 1) (w := w + 3) (by omega) (by omega)
    have iv := fix_Inverse (a := A) (b := A + 1 + 1) (w := w) (by omega) (by omega) (by omega) (by omega) (by omega)
    have pp : 2 ^ (2 * w) = 2 ^ w * 2 ^ w := by rw [← Nat.pow_add, show 2 * w = w + w by omega]
    have ig := inv_gap (P := 2 ^ w) (a := A) (by omega) g3
    have ePi : Enc w A (A + 1 + 1) W0 := ⟨g1, Rat.le_trans g2 (nat_le_rat (Nat.le_succ (A + 1)))⟩
    have ei := (enc_inv (show 0 < A by omega) ePi).1
    rw [pp] at iv ei
    rw [show A + 2 = A + 1 + 1 from rfl] at ig
    obtain ⟨t1, t2, t3⟩ := gap_mul (T := 2097152) (g := 8589934592) (by omega) (show U1 ≤ U2 by omega) gap top ig
    obtain ⟨li1, li2⟩ := okS_len ig (by omega) (show w ≤ 900 by omega) (by omega)
    have mu2 := fix_Mul (a := U1) (b := U2) (c := 2 ^ w * 2 ^ w / (A + 1 + 1)) (d := 2 ^ w * 2 ^ w / A + 1) (w := w) (by omega) (by omega) (by omega) (by omega) (by omega) (by omega)
    have ef := fun sx sy (u1 : p1 ≤ sx) (u2 : sx ≤ p2') (v1 : q1 ≤ sy) (v2 : sy ≤ q2) => enc_mul (et sx sy u1 u2 v1 v2) ei
    have be' : Go.Ev.Fn CX 96 [.int .i64 (a : Int), .int .i64 (b : Int)] (.tup [rv be2, .int .i64 1, .bool true]) := by
      rw [hpi] at be
      exact be
    refine ⟨U1 * (2 ^ w * 2 ^ w / (A + 1 + 1)) / 2 ^ w, U2 * (2 ^ w * 2 ^ w / A + 1) / 2 ^ w + 1, p1, p2', q1, q2, ?_, t1, by omega, by omega, a1, a0, a2, a3, b1, b0, b2, b3, ?_⟩
    · clear ex ey em et be ef ei ePi g1 g2 t1 t2 t3 ig
      generalize U1 * (2 ^ w * 2 ^ w / (A + 1 + 1)) / 2 ^ w = W1 at *
      generalize U2 * (2 ^ w * 2 ^ w / A + 1) / 2 ^ w + 1 = W2 at *
      generalize 2 ^ w * 2 ^ w / (A + 1 + 1) = I1 at *
      generalize 2 ^ w * 2 ^ w / A + 1 = I2 at *
      generalize mkRat (A : Int) (2 ^ w) = r1 at *
      generalize mkRat ((A + 1 : Nat) : Int) (2 ^ w) = r2 at *
      generalize 1 - x = y at *
      refine Go.Ev.Fn.intro (fn := Tryz.f56) (body := (Tryz.f56).body.get!) (by kernel_rfl) (by kernel_rfl) (by kernel_rfl) (fun _ => rfl) (Nat.le_of_ble_eq_true (by kernel_rfl)) ?_; unfold Tryz.f56; simp only [Option.get!_some]
      repeat (first | (simp only [go_sem, Nat.reduceEqDiff, Nat.reduceAdd, Nat.reduceSub, Nat.reduceMul, Nat.reduceLeDiff, Nat.reduceLT, reduceIte, reduceCtorEq, Nat.succ_ne_zero, elemsC, Int.reduceToNat, Nat.reducePow]) | (simp (disch := (first | omega | (simp only [AL, List.length_map]; omega))) only [AR, AL, ifT, ifF, take_all, List.length_cons, List.length_nil, Int.reduceToNat, Int.reducePow, Nat.reducePow]) | (refine wk_intro (by kernel_rfl) ?_) | (refine vp_draw (id := 1) (l := []) (by kernel_rfl) ?_) | (refine vp_draw (id := 3) (l := [34, 35, 38, 41, 36, 42]) (by kernel_rfl) ?_) | (refine vp_draw (id := 5) (l := []) (by kernel_rfl) ?_) | (refine vf_of (by first | exact f1 | exact i1 | exact sb | exact f2 | exact mu | exact be' | exact o2 | exact m1 | exact oa | exact m2 | exact ti | exact fp | exact bl | exact iv | exact mu2) ?_))
    · intro sx sy v1 v2 v3 v4
      rw [if_pos hpi]
      exact ef sx sy v1 v2 v3 v4
  · have be' : Go.Ev.Fn CX 96 [.int .i64 (a : Int), .int .i64 (b : Int)] (.tup [rv be2, .int .i64 0, .bool true]) := by
      have : a % 2 * (b % 2) = 0 := by
        have x1 : a % 2 ≤ 1 := by omega
        have x2 : b % 2 ≤ 1 := by omega
        have := Nat.mul_le_mul x1 x2
        omega
      rw [this] at be
      exact be
    refine ⟨U1, U2, p1, p2', q1, q2, ?_, by omega, by omega, by omega, a1, a0, a2, a3, b1, b0, b2, b3, ?_⟩
    · clear ex ey em et be
      generalize 1 - x = y at *
      refine Go.Ev.Fn.intro (fn := Tryz.f56) (body := (Tryz.f56).body.get!) (by kernel_rfl) (by kernel_rfl) (by kernel_rfl) (fun _ => rfl) (Nat.le_of_ble_eq_true (by kernel_rfl)) ?_; unfold Tryz.f56; simp only [Option.get!_some]
      repeat (first | (simp only [go_sem, Nat.reduceEqDiff, Nat.reduceAdd, Nat.reduceSub, Nat.reduceMul, Nat.reduceLeDiff, Nat.reduceLT, reduceIte, reduceCtorEq, Nat.succ_ne_zero, elemsC, Int.reduceToNat, Nat.reducePow]) | (simp (disch := (first | omega | (simp only [AL, List.length_map]; omega))) only [AR, AL, ifT, ifF, take_all, List.length_cons, List.length_nil, Int.reduceToNat, Int.reducePow, Nat.reducePow]) | (refine wk_intro (by kernel_rfl) ?_) | (refine vp_draw (id := 1) (l := []) (by kernel_rfl) ?_) | (refine vp_draw (id := 3) (l := [34, 35, 38, 41, 36, 42]) (by kernel_rfl) ?_) | (refine vp_draw (id := 5) (l := []) (by kernel_rfl) ?_) | (refine vf_of (by first | exact f1 | exact i1 | exact sb | exact f2 | exact mu | exact be' | exact o2 | exact m1 | exact oa | exact m2 | exact ti) ?_))
    · intro sx sy v1 v2 v3 v4
      rw [if_neg hpi, Rat.mul_one]
      exact et sx sy v1 v2 v3 v4
end Go.Proofs.YtigiblhmhmgagaaGreat

/- incb.row of any halves, in the evaluator. -/
namespace Go.Proofs.YtigiblhmhmgagaaGreat
set_option linter.unusedSimpArgs false
set_option linter.unusedVariables false
set_option maxRecDepth 8000
open Go.Ev
set_option linter.unusedVariables false
section
variable {x : Rat} {a b w F1 F2 : Nat}
theorem half_units (h0 : 0 ≤ x) (h1 : x + x ≤ 1) : 2 * unN x w ≤ 2 ^ w := by
  have h2 : 2 * x.num.natAbs ≤ x.den := by
    have := num_den x
    have d0 : (0 : Rat) < (x.den : Rat) := by exact_mod_cast x.den_pos
    have h3 := Rat.mul_le_mul_of_nonneg_right h1 (show (0 : Rat) ≤ (x.den : Rat) by grind)
    have h4 : (x.num : Rat) + (x.num : Rat) ≤ (x.den : Rat) := by grind
    have h5 : ((x.num + x.num : Int) : Rat) ≤ (((x.den : Nat) : Int) : Rat) := by rw [Rat.intCast_add]; exact h4
    have h6 := Rat.intCast_le_intCast.1 h5
    have h7 := Rat.num_nonneg.2 h0
    omega
  have h3 := Nat.div_mul_le_self (x.num.natAbs * 2 ^ w) x.den
  have h4 := Nat.mul_le_mul_right (2 ^ w) h2
  have h5 : 2 * unN x w * x.den ≤ 2 ^ w * x.den := by
    have e1 : 2 * unN x w * x.den = 2 * (x.num.natAbs * 2 ^ w / x.den * x.den) := by rw [Nat.mul_assoc]
    have e2 : 2 * x.num.natAbs * 2 ^ w = 2 * (x.num.natAbs * 2 ^ w) := by rw [Nat.mul_assoc]
    rw [Nat.mul_comm (2 ^ w)]
    omega
  exact Nat.le_of_mul_le_mul_right h5 x.den_pos
theorem fst_ok (h1 : F1 ≤ F2) (h2 : F2 ≤ F1 + 2 ^ 45) (h3 : F2 ≤ 2 ^ (w + 25)) : okK w b (2 ^ (w + 25)) (2 ^ 69) 0 F1 F2 F1 F2 := by
  unfold okK
  rw [Nat.zero_min, Nat.pow_zero, Nat.one_mul, Nat.one_mul]
  refine ⟨?_, ?_, ?_, ?_, ?_, ?_⟩ <;> omega
theorem rowC_le (hb2 : b ≤ 20) : 4 ^ b * 2 ^ (w + 25) ≤ 2 ^ 65 * 2 ^ w ∧ 4 ^ b * 2 ^ 69 ≤ 2 ^ 109 := by
  have h40 : 4 ^ b ≤ 4 ^ 20 := Nat.pow_le_pow_right (by omega) hb2
  have hp : 2 ^ (w + 25) = 2 ^ 25 * 2 ^ w := by rw [Nat.pow_add, Nat.mul_comm]
  constructor
  · rw [hp, ← Nat.mul_assoc]
    exact Nat.mul_le_mul_right _ (Nat.le_trans (Nat.mul_le_mul_right _ h40) (by decide))
  · exact Nat.le_trans (Nat.mul_le_mul_right _ h40) (by decide)
/-- The row ends. -/
theorem rowh_ends (ha : 1 ≤ a) (hb2 : b ≤ 20) (h0 : 0 ≤ x) (h1 : x + x ≤ 1) (hw0 : 60 ≤ w) (hw : w ≤ 400) (g1 : F1 ≤ F2) (g2 : F2 ≤ F1 + 2 ^ 45) (g3 : F2 ≤ 2 ^ (w + 25)) : ∃ A B K, rowGo w (unN x w) (unN x w + 1) a b 2201 0 F1 F2 F1 F2 = some (A, B, K) := by
  have hP : 2 ^ 60 ≤ 2 ^ w := Nat.pow_le_pow_right (n := 2) (by omega) hw0
  have hy := half_units (w := w) h0 h1
  have ok := fst_ok (b := b) g1 g2 g3
  unfold okK at ok
  rw [Nat.zero_min, Nat.pow_zero, Nat.one_mul, Nat.one_mul] at ok
  have hC := (rowC_le (w := w) hb2).1
  have hp : 2 ^ (w + 25) = 2 ^ w * 33554432 := by rw [Nat.pow_add]
  have hF : 4 ^ 2000 * (4 ^ b * 2 ^ (w + 25)) < 8 * 5 ^ 2000 := by
    obtain ⟨E, hE⟩ : ∃ E : Nat, E = 465 := ⟨_, rfl⟩
    have h49 : 2 ^ 65 * 2 ^ w ≤ 2 ^ E := by rw [← Nat.pow_add]; exact Nat.pow_le_pow_right (by omega) (by omega)
    obtain ⟨N4, hN4⟩ : ∃ N, N = 4 ^ 2000 := ⟨_, rfl⟩
    obtain ⟨N5, hN5⟩ : ∃ N, N = 5 ^ 2000 := ⟨_, rfl⟩
    rw [← hN4, ← hN5]
    have hk : N4 * 2 ^ E < 8 * N5 := by rw [hN4, hN5, hE]; decide +kernel
    exact Nat.lt_of_le_of_lt (Nat.mul_le_mul_left _ (Nat.le_trans hC h49)) hk
  exact row_early (a := a) (b := b) (F := 2000) (C := 2 ^ 65) (by omega) rfl hy ha hb2 b 0 _ _ _ _ _ _ (by omega) (by omega) hC (by decide) hF ok
theorem rowh_bd {A B K : Nat} (ha : 1 ≤ a) (hb2 : b ≤ 20) (h0 : 0 ≤ x) (h1 : x + x ≤ 1) (hw0 : 60 ≤ w) (g1 : F1 ≤ F2) (g2 : F2 ≤ F1 + 2 ^ 45) (g3 : F2 ≤ 2 ^ (w + 25))
    (hg : rowGo w (unN x w) (unN x w + 1) a b 2201 0 F1 F2 F1 F2 = some (A, B, K)) : A ≤ B ∧ B ≤ A + 2 ^ 121 ∧ B ≤ 2 ^ (w + 77) := by
  have hP : 2 ^ 60 ≤ 2 ^ w := Nat.pow_le_pow_right (n := 2) (by omega) hw0
  have hp : 2 ^ (w + 25) = 2 ^ w * 33554432 := by rw [Nat.pow_add]
  obtain ⟨hC, hD⟩ := rowC_le (w := w) hb2
  obtain ⟨i1, i2, i3, i4⟩ := row_inv (a := a) (b := b) (C := 2 ^ 65) (by omega) rfl (half_units (w := w) h0 h1) ha hb2 (by omega) hC (by decide) 2201 0 _ _ _ _ hg (fst_ok g1 g2 g3)
  have b1 : (K + 1) * (4 ^ b * 2 ^ 69) ≤ 2201 * 2 ^ 109 := Nat.mul_le_mul (by omega) hD
  have b2 : (K + 1) * (4 ^ b * 2 ^ (w + 25)) ≤ 2201 * (2 ^ 65 * 2 ^ w) := Nat.mul_le_mul (by omega) hC
  have b3 : 2 ^ (w + 77) = 4096 * (2 ^ 65 * 2 ^ w) := by rw [show w + 77 = 12 + (65 + w) by omega, Nat.pow_add 2 12, Nat.pow_add 2 65]
  have b4 : 64 ≤ 2 ^ 65 * 2 ^ w := Nat.le_trans (by decide) (Nat.le_mul_of_pos_right (2 ^ 65) (by omega))
  omega
set_option maxHeartbeats 1000000 in
theorem incb_rowh {L A' B' K : Nat} (ha : 1 ≤ a) (ha2 : a ≤ 20) (hb : 1 ≤ b) (hb2 : b ≤ 20) (hz : szR x L) (hL : L ≤ 300) (h0 : 0 ≤ x) (h1 : x + x ≤ 1) (hw0 : 60 ≤ w) (hw : w ≤ 400)
    (fi : Go.Ev.Fn CX 56 [.int .i64 (a : Int), .int .i64 (b : Int), rv x, .int .i64 (w : Int)] (spanV F1 F2)) (g1 : F1 ≤ F2) (g2 : F2 ≤ F1 + 2 ^ 45) (g3 : F2 ≤ 2 ^ (w + 25))
    (hg : rowGo w (unN x w) (unN x w + 1) a b 2201 0 F1 F2 F1 F2 = some (A', B', K)) :
    Go.Ev.Fn CX 28 [.int .i64 (a : Int), .int .i64 (b : Int), rv x, .int .i64 (w : Int)] (spanV A' B') := by
  have hP : 2 ^ 60 ≤ 2 ^ w := Nat.pow_le_pow_right (n := 2) (by omega) hw0
  have hp25 : 2 ^ (w + 25) = 2 ^ w * 33554432 := by rw [Nat.pow_add]
  have hy := half_units (w := w) h0 h1
  have r : Go.Ev.Fn CX 55 [rv x, .int .i64 (w : Int)] (spanV (unN x w) (unN x w + 1)) := fix_Rat hz (by omega) (w := w) (by omega)
  obtain ⟨ly1, ly2⟩ := unN_len1 h0 (show x ≤ 1 by clear r hy; grind) (show w ≤ 900 by omega)
  have ok := fst_ok (b := b) g1 g2 g3
  have hC := (rowC_le (w := w) hb2).1
  have e65 : 2 ^ (w + 65) = 2 ^ 65 * 2 ^ w := by rw [Nat.pow_add, Nat.mul_comm]
  have step := fun (k t1 t2 a1 a2 : Nat) (h : okK w b (2 ^ (w + 25)) (2 ^ 69) k t1 t2 a1 a2) => okK_step (a := a) (y1 := unN x w) (y2 := unN x w + 1) (C := 2 ^ 65) (by omega) rfl hy ha hb2 (by omega) hC (by decide) h
  have lens := fun (k t1 t2 a1 a2 : Nat) (hk : k ≤ 2201) (h : okK w b (2 ^ (w + 25)) (2 ^ 69) k t1 t2 a1 a2) => (show (lim t1).length ≤ 40 ∧ (lim t2).length ≤ 40 ∧ (lim a1).length ≤ 40 ∧ (lim a2).length ≤ 40 from by
    obtain ⟨q1, q2, q3, q4, q5, q6⟩ := h
    have f := (four_le (k := k) (b := b) (T := 2 ^ (w + 25))).2
    have b1 : (k + 1) * (4 ^ min k b * 2 ^ (w + 25)) ≤ 4096 * 2 ^ (w + 65) := Nat.mul_le_mul (by omega) (Nat.le_trans f (by rw [e65]; exact hC))
    have b2 : 4096 * 2 ^ (w + 65) = 2 ^ (w + 77) := by rw [show w + 77 = 12 + (w + 65) by omega, Nat.pow_add 2 12]
    have b3 : 2 ^ (w + 65) ≤ 2 ^ (w + 77) := Nat.pow_le_pow_right (by omega) (by omega)
    have b5 : 4 ^ min k b * 2 ^ (w + 25) ≤ 2 ^ (w + 65) := Nat.le_trans f (by rw [e65]; exact hC)
    exact ⟨lim_len_p2 (w := w + 77) (by omega) (by omega), lim_len_p2 (w := w + 77) (by omega) (by omega), lim_len_p2 (w := w + 77) (by omega) (by omega), lim_len_p2 (w := w + 77) (by omega) (by omega)⟩)
  generalize unN x w = y1 at *
  clear hz h0 h1
  refine Go.Ev.Fn.intro (fn := Tryz.f28) (body := (Tryz.f28).body.get!) (by kernel_rfl) (by kernel_rfl) (by kernel_rfl) (fun _ => rfl) (Nat.le_of_ble_eq_true (by kernel_rfl)) ?_; unfold Tryz.f28; simp only [Option.get!_some]
  repeat (first | (simp only [go_sem, Nat.reduceEqDiff, Nat.reduceAdd, Nat.reduceSub, Nat.reduceMul, Nat.reduceLeDiff, Nat.reduceLT, reduceIte, reduceCtorEq, Nat.succ_ne_zero, elemsC, Int.reduceToNat, Nat.reducePow]) | (simp (disch := (first | omega | (simp only [AL, List.length_map]; omega))) only [AR, AL, ifT, ifF, take_all, List.length_cons, List.length_nil, Int.reduceToNat, Int.reducePow, Nat.reducePow]) | (refine wk_intro (by kernel_rfl) ?_) | (refine vf_of (by first | exact r | exact fi) ?_))
  refine vp_loop_inv (fun s => s.tmp 0 = .sv (.int .i64 (a : Int)) ∧ s.tmp 1 = .sv (.int .i64 (b : Int)) ∧ s.tmp 3 = .sv (.int .i64 (w : Int)) ∧ s.tmp 8 = .ptr 8 0 0 ∧ s.obj 8 0 = some [.sl 0 [], .sl 0 []] ∧ s.tmp 9 = .ptr 9 0 0 ∧ s.obj 9 0 = some [natV (lim y1), natV (lim (y1 + 1))] ∧ s.tmp 10 = .ptr 10 0 0 ∧ s.tmp 11 = .ptr 11 0 0 ∧
      ∃ f k t1 t2 a1 a2 : Nat, s.tmp 12 = .sv (.int .i64 (k : Int)) ∧ f + k = 2201 ∧ rowGo w y1 (y1 + 1) a b f k t1 t2 a1 a2 = some (A', B', K) ∧ s.obj 10 0 = some [natV (lim t1), natV (lim t2)] ∧ s.obj 11 0 = some [natV (lim a1), natV (lim a2)] ∧
        okK w b (2 ^ (w + 25)) (2 ^ 69) k t1 t2 a1 a2)
    (fun s => match s.tmp 12 with | .sv (.int _ i) => 2202 - i.toNat | _ => 0) ⟨rfl, rfl, rfl, rfl, rfl, rfl, rfl, rfl, rfl, 2201, 0, F1, F2, F1, F2, rfl, rfl, hg, rfl, rfl, ok⟩ ?_
  rintro s ⟨i0, i1, i3, i8, o8, i9, o9, i10, i11, f, k, t1, t2, a1, a2, i12, hfk, hgo, o10, o11, hok⟩
  obtain ⟨lt1, lt2, la1, la2⟩ := lens k t1 t2 a1 a2 (by omega) hok
  have st := step k t1 t2 a1 a2 hok
  have sm := fix_Small (a := t1) (b := t2) (by omega) (k := 3) (by omega)
  clear hP hp25 e65 hC g1 g2 g3
  cases f with
  | zero => simp only [rowGo] at hgo; cases hgo
  | succ f =>
    rw [rowGo] at hgo
    by_cases hs : b ≤ k ∧ t2 < 8
    · rw [if_pos hs] at hgo
      simp only [Option.some.injEq, Prod.mk.injEq] at hgo
      obtain ⟨rfl, rfl, rfl⟩ := hgo
      rw [decide_eq_true (show t2 < 2 ^ 3 from hs.2)] at sm
      have hs1 := hs.1
      have wd := fix_Wider (a := a1) (b := a2) (n := 64) (by omega) (by omega) (by omega)
      clear step lens st hs hg
      repeat (first | (simp only [go_sem, Nat.reduceEqDiff, Nat.reduceAdd, Nat.reduceSub, Nat.reduceMul, Nat.reduceLeDiff, Nat.reduceLT, reduceIte, reduceCtorEq, Nat.succ_ne_zero, elemsC, Int.reduceToNat, Nat.reducePow, i0, i1, i3, i8, o8, i9, o9, i10, i11, i12, o10, o11, Bool.not_true]) | (simp (disch := (first | omega | (simp only [AL, List.length_map]; omega))) only [AR, AL, ifT, ifF, take_all, List.length_cons, List.length_nil, Int.reduceToNat, Int.reducePow, Nat.reducePow, i0, i1, i3, i8, o8, i9, o9, i10, i11, i12, o10, o11, Bool.not_true]) | (refine wk_intro (by kernel_rfl) ?_) | (refine vf_of (by first | exact sm | exact wd) ?_))
    · rw [if_neg hs] at hgo
      obtain ⟨lu1, lu2, lb1, lb2⟩ := lens (k + 1) _ _ _ _ (by omega) st
      have mu := fix_Mul (a := t1) (b := t2) (c := y1) (d := y1 + 1) (w := w) (by omega) (by omega) (by omega) (by omega) (by omega) (by omega)
      have q1 := nat_Of (a + b + 2 * k) (by omega)
      have q2 := nat_Of (a + 2 + 2 * k) (by omega)
      have lq1 : (lim (a + b + 2 * k)).length ≤ 1 := lim_len_one (by omega)
      have lq2 : (lim (a + 2 + 2 * k)).length ≤ 1 := lim_len_one (by omega)
      have z1 := lim_len_mul (a := t1) (b := y1)
      have z2 := lim_len_mul (a := t2) (b := y1 + 1)
      have z3 := lim_len_mono (Nat.div_le_self (t1 * y1) (2 ^ w))
      have l1 := lim_len1
      have z4 := lim_len_add (a := t2 * (y1 + 1) / 2 ^ w) (b := 1) (L := 200) (Nat.le_trans (lim_len_mono (Nat.div_le_self (t2 * (y1 + 1)) (2 ^ w))) (by omega)) (by omega)
      have ti := fix_Times (a := t1 * y1 / 2 ^ w) (b := t2 * (y1 + 1) / 2 ^ w + 1) (n := a + b + 2 * k) (d := a + 2 + 2 * k) (by omega) (by omega) (by omega) (by omega) (by omega)
      rw [show ((a + b + 2 * k : Nat) : Int) = (a : Int) + (b : Int) + 2 * (k : Int) by omega] at q1
      rw [show ((a + 2 + 2 * k : Nat) : Int) = (a : Int) + 2 + 2 * (k : Int) by omega] at q2
      generalize t1 * y1 / 2 ^ w * (a + b + 2 * k) / (a + 2 + 2 * k) = u1 at *
      generalize (t2 * (y1 + 1) / 2 ^ w + 1) * (a + b + 2 * k) / (a + 2 + 2 * k) + 1 = u2 at *
      generalize t1 * y1 / 2 ^ w = v1 at *
      generalize t2 * (y1 + 1) / 2 ^ w + 1 = v2 at *
      have ad := fix_Add (a := a1) (b := a2) (c := u1) (d := u2) (by omega) (by omega) (by omega) (by omega)
      clear step lens hg
      by_cases hk : b ≤ k
      · rw [decide_eq_false (show ¬ t2 < 2 ^ 3 from fun h => hs ⟨hk, h⟩)] at sm
        repeat (first | (simp only [go_sem, Nat.reduceEqDiff, Nat.reduceAdd, Nat.reduceSub, Nat.reduceMul, Nat.reduceLeDiff, Nat.reduceLT, reduceIte, reduceCtorEq, Nat.succ_ne_zero, elemsC, Int.reduceToNat, Nat.reducePow, i0, i1, i3, i8, o8, i9, o9, i10, i11, i12, o10, o11, Bool.not_false]) | (simp (disch := (first | omega | (simp only [AL, List.length_map]; omega))) only [AR, AL, ifT, ifF, take_all, List.length_cons, List.length_nil, Int.reduceToNat, Int.reducePow, Nat.reducePow, i0, i1, i3, i8, o8, i9, o9, i10, i11, i12, o10, o11, Bool.not_false]) | (refine wk_intro (by kernel_rfl) ?_) | (refine vf_of (by first | exact sm | exact mu | exact q1 | exact q2 | exact ti | exact ad) ?_))
        exact ⟨⟨f, k + 1, u1, u2, a1 + u1, a2 + u2, rfl, by omega, hgo, rfl, rfl, st⟩, by omega⟩
      · repeat (first | (simp only [go_sem, Nat.reduceEqDiff, Nat.reduceAdd, Nat.reduceSub, Nat.reduceMul, Nat.reduceLeDiff, Nat.reduceLT, reduceIte, reduceCtorEq, Nat.succ_ne_zero, elemsC, Int.reduceToNat, Nat.reducePow, i0, i1, i3, i8, o8, i9, o9, i10, i11, i12, o10, o11]) | (simp (disch := (first | omega | (simp only [AL, List.length_map]; omega))) only [AR, AL, ifT, ifF, take_all, List.length_cons, List.length_nil, Int.reduceToNat, Int.reducePow, Nat.reducePow, i0, i1, i3, i8, o8, i9, o9, i10, i11, i12, o10, o11]) | (refine wk_intro (by kernel_rfl) ?_))
        repeat (first | (simp only [go_sem, Nat.reduceEqDiff, Nat.reduceAdd, Nat.reduceSub, Nat.reduceMul, Nat.reduceLeDiff, Nat.reduceLT, reduceIte, reduceCtorEq, Nat.succ_ne_zero, elemsC, Int.reduceToNat, Nat.reducePow, i0, i1, i3, i8, o8, i9, o9, i10, i11, i12, o10, o11]) | (simp (disch := (first | omega | (simp only [AL, List.length_map]; omega))) only [AR, AL, ifT, ifF, take_all, List.length_cons, List.length_nil, Int.reduceToNat, Int.reducePow, Nat.reducePow, i0, i1, i3, i8, o8, i9, o9, i10, i11, i12, o10, o11]) | (refine wk_intro (by kernel_rfl) ?_) | (refine vf_of (by first | exact mu | exact q1 | exact q2 | exact ti | exact ad) ?_))
        exact ⟨⟨f, k + 1, u1, u2, a1 + u1, a2 + u2, rfl, by omega, hgo, rfl, rfl, st⟩, by omega⟩
end
end Go.Proofs.YtigiblhmhmgagaaGreat

/- incb.row of whole numbers, in the evaluator. -/
namespace Go.Proofs.YtigiblhmhmgagaaGreat
set_option linter.unusedSimpArgs false
set_option linter.unusedVariables false
set_option maxRecDepth 8000
open Go.Ev
theorem num_den' (q : Rat) : q * (q.den : Rat) = (q.num : Rat) := by
  have h : mkRat q.num q.den * (q.den : Rat) = (q.num : Rat) := by
    rw [Rat.mkRat_eq_div]
    refine Rat.div_mul_cancel ?_
    have : (0 : Rat) < (q.den : Rat) := by exact_mod_cast q.den_pos
    grind
  rwa [Rat.mkRat_self] at h
section
variable {x : Rat} {A B w : Nat}
/-- The first term is not too great, and known well. -/
theorem fs_ok (hA : 1 ≤ A) (hB : 1 ≤ B) (hAB : A + B ≤ 10) (h0 : 0 ≤ x) (h1 : x ≤ 1) (hw0 : 60 ≤ w) : okK w (2 * B) (2 ^ (w + 9)) (2 ^ 54) 0 (fsN x A B w).1 (fsN x A B w).2 (fsN x A B w).1 (fsN x A B w).2 := by
  have k1 := okS_pw (A := A) (w := w) h0 h1 (by omega)
  have k2 := okS_pw (q := 1 - x) (A := B) (w := w) (by grind) (by grind) (by omega)
  have hP : 2 ^ 60 ≤ 2 ^ w := Nat.pow_le_pow_right (n := 2) (by omega) hw0
  have k3 := okS_mul (by omega) (by omega) (by omega) k1 k2
  obtain ⟨-, -, e3⟩ := beta_ok hA hB hAB
  have hp9 : 2 ^ (w + 9) = 2 ^ w * 512 := by rw [Nat.pow_add]
  obtain ⟨g1, g2, g3⟩ := k3
  unfold okK
  rw [Nat.zero_min, Nat.pow_zero, Nat.one_mul, Nat.one_mul]
  generalize hM1 : (pwN x A w).1 * (pwN (1 - x) B w).1 / 2 ^ w = M1 at *
  generalize hM2 : (pwN x A w).2 * (pwN (1 - x) B w).2 / 2 ^ w + 1 = M2 at *
  have f1 : (fsN x A B w).1 = M1 * cc (B - 1) A := by rw [← hM1]
  have f2 : (fsN x A B w).2 = M2 * cc (B - 1) A + 1 := by rw [← hM2]
  rw [f1, f2]
  generalize cc (B - 1) A = c at *
  have x1 := Nat.mul_le_mul_right c g1
  have x2 : M2 * c ≤ (M1 + 2046) * c := Nat.mul_le_mul_right c (by omega)
  have x3 : M2 * c ≤ (2 ^ w + 2046) * 128 := Nat.mul_le_mul (by omega) e3
  have x4 : 2046 * c ≤ 2046 * 128 := Nat.mul_le_mul_left _ e3
  rw [Nat.add_mul] at x2
  refine ⟨?_, ?_, ?_, ?_, ?_, ?_⟩ <;> omega
/-- The row of whole numbers ends. -/
theorem row_ends (hA : 1 ≤ A) (hB : 1 ≤ B) (hAB : A + B ≤ 10) (h0 : 0 ≤ x) (h1 : x + x ≤ 1) (hw0 : 60 ≤ w) (hw : w ≤ 400) : 200 ≤ 2 ^ w ∧ 2 * unN x w ≤ 2 ^ w ∧ ∃ a b K, rowGo w (unN x w) (unN x w + 1) (2 * A) (2 * B) 2201 0 (fsN x A B w).1 (fsN x A B w).2 (fsN x A B w).1 (fsN x A B w).2 = some (a, b, K) := by
  have hP : 2 ^ 60 ≤ 2 ^ w := Nat.pow_le_pow_right (n := 2) (by omega) hw0
  have hy : 2 * unN x w ≤ 2 ^ w := by
    have h2 : 2 * x.num.natAbs ≤ x.den := by
      have := num_den' x
      have d0 : (0 : Rat) < (x.den : Rat) := by exact_mod_cast x.den_pos
      have h3 := Rat.mul_le_mul_of_nonneg_right h1 (show (0 : Rat) ≤ (x.den : Rat) by grind)
      have h4 : (x.num : Rat) + (x.num : Rat) ≤ (x.den : Rat) := by grind
      have h5 : ((x.num + x.num : Int) : Rat) ≤ (((x.den : Nat) : Int) : Rat) := by rw [Rat.intCast_add]; exact h4
      have h6 := Rat.intCast_le_intCast.1 h5
      have h7 := Rat.num_nonneg.2 h0
      omega
    have h3 := Nat.div_mul_le_self (x.num.natAbs * 2 ^ w) x.den
    have h4 := Nat.mul_le_mul_right (2 ^ w) h2
    have h5 : 2 * unN x w * x.den ≤ 2 ^ w * x.den := by
      have e1 : 2 * unN x w * x.den = 2 * (x.num.natAbs * 2 ^ w / x.den * x.den) := by rw [Nat.mul_assoc]
      have e2 : 2 * x.num.natAbs * 2 ^ w = 2 * (x.num.natAbs * 2 ^ w) := by rw [Nat.mul_assoc]
      rw [Nat.mul_comm (2 ^ w)]
      omega
    exact Nat.le_of_mul_le_mul_right h5 x.den_pos
  refine ⟨by omega, hy, ?_⟩
  have ok := fs_ok hA hB hAB h0 (show x ≤ 1 by grind) hw0
  unfold okK at ok
  rw [Nat.zero_min, Nat.pow_zero, Nat.one_mul, Nat.one_mul] at ok
  have hp9 : 2 ^ (w + 9) = 2 ^ w * 512 := by rw [Nat.pow_add]
  have h40 : 4 ^ (2 * B) ≤ 4 ^ 18 := Nat.pow_le_pow_right (by omega) (by omega)
  have hC : 4 ^ (2 * B) * 2 ^ (w + 9) ≤ 2 ^ 49 * 2 ^ w := by
    rw [hp9, Nat.mul_comm (2 ^ w) 512, ← Nat.mul_assoc]
    exact Nat.mul_le_mul_right _ (Nat.le_trans (Nat.mul_le_mul_right 512 h40) (by decide))
  have hF : 4 ^ 2000 * (4 ^ (2 * B) * 2 ^ (w + 9)) < 8 * 5 ^ 2000 := by
    obtain ⟨E, hE⟩ : ∃ E : Nat, E = 449 := ⟨_, rfl⟩
    have h49 : 2 ^ 49 * 2 ^ w ≤ 2 ^ E := by rw [← Nat.pow_add]; exact Nat.pow_le_pow_right (by omega) (by omega)
    obtain ⟨N4, hN4⟩ : ∃ N, N = 4 ^ 2000 := ⟨_, rfl⟩
    obtain ⟨N5, hN5⟩ : ∃ N, N = 5 ^ 2000 := ⟨_, rfl⟩
    rw [← hN4, ← hN5]
    have hk : N4 * 2 ^ E < 8 * N5 := by rw [hN4, hN5, hE]; decide +kernel
    exact Nat.lt_of_le_of_lt (Nat.mul_le_mul_left _ (Nat.le_trans hC h49)) hk
  exact row_early (a := 2 * A) (b := 2 * B) (F := 2000) (C := 2 ^ 49) (by omega) rfl hy (by omega) (by omega) (2 * B) 0 _ _ _ _ _ _ (by omega) (by omega) hC (by decide) hF ok
set_option maxHeartbeats 1000000 in
theorem incb_row {L A' B' K : Nat} (hA : 1 ≤ A) (hB : 1 ≤ B) (hAB : A + B ≤ 10) (hz : szR x L) (hL1 : 1 ≤ L) (hL : L ≤ 3) (h0 : 0 ≤ x) (h1 : x + x ≤ 1) (hw0 : 60 ≤ w) (hw : w ≤ 400)
    (hg : rowGo w (unN x w) (unN x w + 1) (2 * A) (2 * B) 2201 0 (fsN x A B w).1 (fsN x A B w).2 (fsN x A B w).1 (fsN x A B w).2 = some (A', B', K)) :
    Go.Ev.Fn CX 28 [.int .i64 (2 * (A : Int)), .int .i64 (2 * (B : Int)), rv x, .int .i64 (w : Int)] (spanV A' B') := by
  obtain ⟨hP, hy, -⟩ := row_ends hA hB hAB h0 h1 hw0 hw
  have r : Go.Ev.Fn CX 55 [rv x, .int .i64 (w : Int)] (spanV (unN x w) (unN x w + 1)) := fix_Rat hz (by omega) (w := w) (by omega)
  obtain ⟨ly1, ly2⟩ := unN_len hz (by omega) (show w ≤ 900 by omega)
  have fi := incb_first (w := w) hA hB hAB hz hL1 hL h0 (show x ≤ 1 by grind) (by omega) (by omega)
  have ok := fs_ok hA hB hAB h0 (show x ≤ 1 by grind) hw0
  have hp9 : 2 ^ (w + 9) = 2 ^ w * 512 := by rw [Nat.pow_add]
  have h40 : 4 ^ (2 * B) ≤ 4 ^ 18 := Nat.pow_le_pow_right (by omega) (by omega)
  have hC : 4 ^ (2 * B) * 2 ^ (w + 9) ≤ 2 ^ 49 * 2 ^ w := by
    rw [hp9, Nat.mul_comm (2 ^ w) 512, ← Nat.mul_assoc]
    exact Nat.mul_le_mul_right _ (Nat.le_trans (Nat.mul_le_mul_right 512 h40) (by decide))
  have hC2 : 4 ^ (2 * B) * 2 ^ (w + 9) ≤ 2 ^ (w + 49) := by
    have e49 : 2 ^ (w + 49) = 2 ^ 49 * 2 ^ w := by rw [Nat.pow_add, Nat.mul_comm]
    rw [e49]; exact hC
  have step := fun (k t1 t2 a1 a2 : Nat) (h : okK w (2 * B) (2 ^ (w + 9)) (2 ^ 54) k t1 t2 a1 a2) => okK_step (a := 2 * A) (y1 := unN x w) (y2 := unN x w + 1) (C := 2 ^ 49) hP rfl hy (by omega) (by omega) (by omega) hC (by decide) h
  have lens := fun (k t1 t2 a1 a2 : Nat) (hk : k ≤ 2201) (h : okK w (2 * B) (2 ^ (w + 9)) (2 ^ 54) k t1 t2 a1 a2) => (show (lim t1).length ≤ 40 ∧ (lim t2).length ≤ 40 ∧ (lim a1).length ≤ 40 ∧ (lim a2).length ≤ 40 from by
    obtain ⟨q1, q2, q3, q4, q5, q6⟩ := h
    have f := (four_le (k := k) (b := 2 * B) (T := 2 ^ (w + 9))).2
    have b1 : (k + 1) * (4 ^ min k (2 * B) * 2 ^ (w + 9)) ≤ 4096 * 2 ^ (w + 49) := Nat.mul_le_mul (by omega) (Nat.le_trans f hC2)
    have b2 : 4096 * 2 ^ (w + 49) = 2 ^ (w + 61) := by rw [show w + 61 = 12 + (w + 49) by omega, Nat.pow_add 2 12]
    have b3 : 2 ^ (w + 49) ≤ 2 ^ (w + 61) := Nat.pow_le_pow_right (by omega) (by omega)
    exact ⟨lim_len_p2 (w := w + 61) (by omega) (by omega), lim_len_p2 (w := w + 61) (by omega) (by omega), lim_len_p2 (w := w + 61) (by omega) (by omega), lim_len_p2 (w := w + 61) (by omega) (by omega)⟩)
  generalize (fsN x A B w).1 = F1 at *
  generalize (fsN x A B w).2 = F2 at *
  generalize unN x w = y1 at *
  clear hz h0 h1
  refine Go.Ev.Fn.intro (fn := Tryz.f28) (body := (Tryz.f28).body.get!) (by kernel_rfl) (by kernel_rfl) (by kernel_rfl) (fun _ => rfl) (Nat.le_of_ble_eq_true (by kernel_rfl)) ?_; unfold Tryz.f28; simp only [Option.get!_some]
  repeat (first | (simp only [go_sem, Nat.reduceEqDiff, Nat.reduceAdd, Nat.reduceSub, Nat.reduceMul, Nat.reduceLeDiff, Nat.reduceLT, reduceIte, reduceCtorEq, Nat.succ_ne_zero, elemsC, Int.reduceToNat, Nat.reducePow]) | (simp (disch := (first | omega | (simp only [AL, List.length_map]; omega))) only [AR, AL, ifT, ifF, take_all, List.length_cons, List.length_nil, Int.reduceToNat, Int.reducePow, Nat.reducePow]) | (refine wk_intro (by kernel_rfl) ?_) | (refine vf_of (by first | exact r | exact fi) ?_))
  refine vp_loop_inv (fun s => s.tmp 0 = .sv (.int .i64 (2 * (A : Int))) ∧ s.tmp 1 = .sv (.int .i64 (2 * (B : Int))) ∧ s.tmp 3 = .sv (.int .i64 (w : Int)) ∧ s.tmp 8 = .ptr 8 0 0 ∧ s.obj 8 0 = some [.sl 0 [], .sl 0 []] ∧ s.tmp 9 = .ptr 9 0 0 ∧ s.obj 9 0 = some [natV (lim y1), natV (lim (y1 + 1))] ∧ s.tmp 10 = .ptr 10 0 0 ∧ s.tmp 11 = .ptr 11 0 0 ∧
      ∃ f k t1 t2 a1 a2 : Nat, s.tmp 12 = .sv (.int .i64 (k : Int)) ∧ f + k = 2201 ∧ rowGo w y1 (y1 + 1) (2 * A) (2 * B) f k t1 t2 a1 a2 = some (A', B', K) ∧ s.obj 10 0 = some [natV (lim t1), natV (lim t2)] ∧ s.obj 11 0 = some [natV (lim a1), natV (lim a2)] ∧
        okK w (2 * B) (2 ^ (w + 9)) (2 ^ 54) k t1 t2 a1 a2)
    (fun s => match s.tmp 12 with | .sv (.int _ i) => 2202 - i.toNat | _ => 0) ⟨rfl, rfl, rfl, rfl, rfl, rfl, rfl, rfl, rfl, 2201, 0, F1, F2, F1, F2, rfl, rfl, hg, rfl, rfl, ok⟩ ?_
  rintro s ⟨i0, i1, i3, i8, o8, i9, o9, i10, i11, f, k, t1, t2, a1, a2, i12, hfk, hgo, o10, o11, hok⟩
  obtain ⟨lt1, lt2, la1, la2⟩ := lens k t1 t2 a1 a2 (by omega) hok
  have st := step k t1 t2 a1 a2 hok
  have sm := fix_Small (a := t1) (b := t2) (by omega) (k := 3) (by omega)
  cases f with
  | zero => simp only [rowGo] at hgo; cases hgo
  | succ f =>
    rw [rowGo] at hgo
    by_cases hs : 2 * B ≤ k ∧ t2 < 8
    · rw [if_pos hs] at hgo
      simp only [Option.some.injEq, Prod.mk.injEq] at hgo
      obtain ⟨rfl, rfl, rfl⟩ := hgo
      rw [decide_eq_true (show t2 < 2 ^ 3 from hs.2)] at sm
      have hs1 := hs.1
      have wd := fix_Wider (a := a1) (b := a2) (n := 64) (by omega) (by omega) (by omega)
      clear step lens st hs hg
      repeat (first | (simp only [go_sem, Nat.reduceEqDiff, Nat.reduceAdd, Nat.reduceSub, Nat.reduceMul, Nat.reduceLeDiff, Nat.reduceLT, reduceIte, reduceCtorEq, Nat.succ_ne_zero, elemsC, Int.reduceToNat, Nat.reducePow, i0, i1, i3, i8, o8, i9, o9, i10, i11, i12, o10, o11, Bool.not_true]) | (simp (disch := (first | omega | (simp only [AL, List.length_map]; omega))) only [AR, AL, ifT, ifF, take_all, List.length_cons, List.length_nil, Int.reduceToNat, Int.reducePow, Nat.reducePow, i0, i1, i3, i8, o8, i9, o9, i10, i11, i12, o10, o11, Bool.not_true]) | (refine wk_intro (by kernel_rfl) ?_) | (refine vf_of (by first | exact sm | exact wd) ?_))
    · rw [if_neg hs] at hgo
      obtain ⟨lu1, lu2, lb1, lb2⟩ := lens (k + 1) _ _ _ _ (by omega) st
      have mu := fix_Mul (a := t1) (b := t2) (c := y1) (d := y1 + 1) (w := w) (by omega) (by omega) (by omega) (by omega) (by omega) (by omega)
      have q1 := nat_Of (2 * A + 2 * B + 2 * k) (by omega)
      have q2 := nat_Of (2 * A + 2 + 2 * k) (by omega)
      have lq1 : (lim (2 * A + 2 * B + 2 * k)).length ≤ 1 := lim_len_one (by omega)
      have lq2 : (lim (2 * A + 2 + 2 * k)).length ≤ 1 := lim_len_one (by omega)
      have z1 := lim_len_mul (a := t1) (b := y1)
      have z2 := lim_len_mul (a := t2) (b := y1 + 1)
      have z3 := lim_len_mono (Nat.div_le_self (t1 * y1) (2 ^ w))
      have l1 := lim_len1
      have z4 := lim_len_add (a := t2 * (y1 + 1) / 2 ^ w) (b := 1) (L := 200) (Nat.le_trans (lim_len_mono (Nat.div_le_self (t2 * (y1 + 1)) (2 ^ w))) (by omega)) (by omega)
      have ti := fix_Times (a := t1 * y1 / 2 ^ w) (b := t2 * (y1 + 1) / 2 ^ w + 1) (n := 2 * A + 2 * B + 2 * k) (d := 2 * A + 2 + 2 * k) (by omega) (by omega) (by omega) (by omega) (by omega)
      rw [show ((2 * A + 2 * B + 2 * k : Nat) : Int) = 2 * (A : Int) + 2 * (B : Int) + 2 * (k : Int) by omega] at q1
      rw [show ((2 * A + 2 + 2 * k : Nat) : Int) = 2 * (A : Int) + 2 + 2 * (k : Int) by omega] at q2
      generalize t1 * y1 / 2 ^ w * (2 * A + 2 * B + 2 * k) / (2 * A + 2 + 2 * k) = u1 at *
      generalize (t2 * (y1 + 1) / 2 ^ w + 1) * (2 * A + 2 * B + 2 * k) / (2 * A + 2 + 2 * k) + 1 = u2 at *
      generalize t1 * y1 / 2 ^ w = v1 at *
      generalize t2 * (y1 + 1) / 2 ^ w + 1 = v2 at *
      have ad := fix_Add (a := a1) (b := a2) (c := u1) (d := u2) (by omega) (by omega) (by omega) (by omega)
      clear step lens hg
      by_cases hk : 2 * B ≤ k
      · rw [decide_eq_false (show ¬ t2 < 2 ^ 3 from fun h => hs ⟨hk, h⟩)] at sm
        repeat (first | (simp only [go_sem, Nat.reduceEqDiff, Nat.reduceAdd, Nat.reduceSub, Nat.reduceMul, Nat.reduceLeDiff, Nat.reduceLT, reduceIte, reduceCtorEq, Nat.succ_ne_zero, elemsC, Int.reduceToNat, Nat.reducePow, i0, i1, i3, i8, o8, i9, o9, i10, i11, i12, o10, o11, Bool.not_false]) | (simp (disch := (first | omega | (simp only [AL, List.length_map]; omega))) only [AR, AL, ifT, ifF, take_all, List.length_cons, List.length_nil, Int.reduceToNat, Int.reducePow, Nat.reducePow, i0, i1, i3, i8, o8, i9, o9, i10, i11, i12, o10, o11, Bool.not_false]) | (refine wk_intro (by kernel_rfl) ?_) | (refine vf_of (by first | exact sm | exact mu | exact q1 | exact q2 | exact ti | exact ad) ?_))
        exact ⟨⟨f, k + 1, u1, u2, a1 + u1, a2 + u2, rfl, by omega, hgo, rfl, rfl, st⟩, by omega⟩
      · repeat (first | (simp only [go_sem, Nat.reduceEqDiff, Nat.reduceAdd, Nat.reduceSub, Nat.reduceMul, Nat.reduceLeDiff, Nat.reduceLT, reduceIte, reduceCtorEq, Nat.succ_ne_zero, elemsC, Int.reduceToNat, Nat.reducePow, i0, i1, i3, i8, o8, i9, o9, i10, i11, i12, o10, o11]) | (simp (disch := (first | omega | (simp only [AL, List.length_map]; omega))) only [AR, AL, ifT, ifF, take_all, List.length_cons, List.length_nil, Int.reduceToNat, Int.reducePow, Nat.reducePow, i0, i1, i3, i8, o8, i9, o9, i10, i11, i12, o10, o11]) | (refine wk_intro (by kernel_rfl) ?_))
        repeat (first | (simp only [go_sem, Nat.reduceEqDiff, Nat.reduceAdd, Nat.reduceSub, Nat.reduceMul, Nat.reduceLeDiff, Nat.reduceLT, reduceIte, reduceCtorEq, Nat.succ_ne_zero, elemsC, Int.reduceToNat, Nat.reducePow, i0, i1, i3, i8, o8, i9, o9, i10, i11, i12, o10, o11]) | (simp (disch := (first | omega | (simp only [AL, List.length_map]; omega))) only [AR, AL, ifT, ifF, take_all, List.length_cons, List.length_nil, Int.reduceToNat, Int.reducePow, Nat.reducePow, i0, i1, i3, i8, o8, i9, o9, i10, i11, i12, o10, o11]) | (refine wk_intro (by kernel_rfl) ?_) | (refine vf_of (by first | exact mu | exact q1 | exact q2 | exact ti | exact ad) ?_))
        exact ⟨⟨f, k + 1, u1, u2, a1 + u1, a2 + u2, rfl, by omega, hgo, rfl, rfl, st⟩, by omega⟩
end
end Go.Proofs.YtigiblhmhmgagaaGreat

/- What the row of whole numbers tells has the share, and is narrow: plain mathematics. -/
namespace Go.Proofs.YtigiblhmhmgagaaGreat
open Go.Ev
set_option linter.unusedVariables false
section
variable {x y : Rat}
theorem sS_total (h : x + y = 1) : ∀ n, sS x y n (n + 1) = 1 := by
  intro n
  induction n with
  | zero =>
    show 0 + trm x y 0 0 = 1
    unfold trm
    rw [cc_zero]
    show (0 : Rat) + ((1 : Nat) : Rat) * 1 * 1 = 1
    decide +kernel
  | succ n ih =>
    have h1 := sS_step (x := x) (y := y) (n := n) n (Nat.le_refl _)
    have h2 : sS x y n (n + 1) = sS x y n n + trm x y n n := rfl
    have t1 : trm x y n n = pwR y n := by
      unfold trm
      rw [Nat.sub_self, show cc 0 n = 1 by simp [cc]]
      show ((1 : Nat) : Rat) * 1 * pwR y n = _
      have : ((1 : Nat) : Rat) = 1 := rfl
      rw [this]; grind
    have t2 : trm x y (n + 1) (n + 1) = pwR y n * y := by
      unfold trm
      rw [Nat.sub_self, show cc 0 (n + 1) = 1 by simp [cc], pwR_succ]
      show ((1 : Nat) : Rat) * 1 * _ = _
      have : ((1 : Nat) : Rat) = 1 := rfl
      rw [this]; grind
    show sS x y (n + 1) (n + 1) + trm x y (n + 1) (n + 1) = 1
    rw [h1, t2]
    rw [t1] at h2
    rw [ih] at h2 ⊢
    have e : x = 1 - y := by grind
    rw [e]
    grind
theorem trm_turn {n i : Nat} (h : i ≤ n) : trm x y n i = trm y x n (n - i) := by
  unfold trm
  rw [show n - (n - i) = i by omega, cc_symm]
  grind
theorem sS_turn (h : x + y = 1) {n : Nat} : ∀ j, j ≤ n + 1 → sS x y n j + sS y x n (n + 1 - j) = 1 := by
  intro j
  induction j with
  | zero =>
    intro _
    show 0 + sS y x n (n + 1) = 1
    rw [sS_total (by grind)]; grind
  | succ j ih =>
    intro hj
    have h1 := ih (by omega)
    have h2 := trm_turn (x := x) (y := y) (n := n) (i := j) (by omega)
    have h3 : sS y x n (n + 1 - j) = sS y x n (n - j) + trm y x n (n - j) := by
      rw [show n + 1 - j = (n - j) + 1 by omega]; rfl
    show sS x y n j + trm x y n j + sS y x n (n + 1 - (j + 1)) = 1
    rw [show n + 1 - (j + 1) = n - j by omega, h2]
    grind
theorem pwR_den {q : Rat} {X D : Nat} (h : q * (D : Rat) = (X : Rat)) : ∀ n, pwR q n * ((D ^ n : Nat) : Rat) = ((X ^ n : Nat) : Rat)
  | 0 => by show (1 : Rat) * ((1 : Nat) : Rat) = ((1 : Nat) : Rat); rw [Rat.one_mul]
  | n + 1 => by
    have ih := pwR_den h n
    rw [pwR_succ, Nat.pow_succ, Nat.pow_succ, cm, cm, ← ih, ← h]
    grind
theorem sS_den {X F D n : Nat} (hx : x * (D : Rat) = (X : Rat)) (hy : y * (D : Rat) = (F : Rat)) : ∀ k, k ≤ n + 1 → sS y x n k * ((D ^ n : Nat) : Rat) = ((sumN X F n k : Nat) : Rat) := by
  intro k
  induction k with
  | zero => intro _; show (0 : Rat) * _ = ((0 : Nat) : Rat); rw [Rat.zero_mul]; rfl
  | succ k ih =>
    intro hk
    have h1 := ih (by omega)
    have h2 : trm y x n k * ((D ^ n : Nat) : Rat) = ((termN X F n k : Nat) : Rat) := by
      unfold trm termN
      rw [cm, cm, ← pwR_den hx k, ← pwR_den hy (n - k)]
      have e : ((D ^ n : Nat) : Rat) = ((D ^ k : Nat) : Rat) * ((D ^ (n - k) : Nat) : Rat) := by rw [← cm, ← Nat.pow_add, show k + (n - k) = n by omega]
      rw [e]
      grind
    show (sS y x n k + trm y x n k) * _ = ((sumN X F n k + termN X F n k : Nat) : Rat)
    rw [cn, ← h1, ← h2]
    grind
end
theorem cdf_is {x : Rat} (h0 : 0 ≤ x) (h1 : x ≤ 1) {n k : Nat} (hk : 1 ≤ k) (hkn : k ≤ n) : cdfB n ((k : Int) - 1) x = sS (1 - x) x n k := by
  unfold cdfB
  rw [if_neg (by omega), if_neg (by omega), show ((k : Int) - 1).toNat + 1 = k by omega]
  obtain ⟨u1, u2⟩ := unit_num h0 h1
  have hx : x * (x.den : Rat) = ((x.num.natAbs : Nat) : Rat) := by
    rw [num_den' x, ← u2]; rfl
  have hy : (1 - x) * (x.den : Rat) = ((x.den - x.num.natAbs : Nat) : Rat) := by
    have e : ((x.den - x.num.natAbs : Nat) : Rat) + ((x.num.natAbs : Nat) : Rat) = (x.den : Rat) := by rw [← cn]; congr 1; omega
    grind
  have h := sS_den hx hy (n := n) k (by omega)
  have D : (0 : Rat) < ((x.den ^ n : Nat) : Rat) := by exact_mod_cast (den_pos x n)
  have m : mkRat ((sumN x.num.natAbs (x.den - x.num.natAbs) n k : Nat) : Int) (x.den ^ n) * ((x.den ^ n : Nat) : Rat) = ((sumN x.num.natAbs (x.den - x.num.natAbs) n k : Nat) : Rat) := by
    rw [Rat.mkRat_eq_div]
    exact Rat.div_mul_cancel (by grind)
  have e : (mkRat ((sumN x.num.natAbs (x.den - x.num.natAbs) n k : Nat) : Int) (x.den ^ n) - sS (1 - x) x n k) * ((x.den ^ n : Nat) : Rat) = 0 := by
    generalize mkRat ((sumN x.num.natAbs (x.den - x.num.natAbs) n k : Nat) : Int) (x.den ^ n) = z at *
    generalize ((x.den ^ n : Nat) : Rat) = d at *
    grind
  rcases Rat.mul_eq_zero.1 e with g | g
  · grind
  · grind
section
variable {x : Rat} {A B w : Nat}
theorem un_enc {q : Rat} (h0 : 0 ≤ q) (w : Nat) : Enc w (unN q w) (unN q w + 1) q := by
  have D : (0 : Rat) < (q.den : Rat) := by exact_mod_cast q.den_pos
  have f := floor_le (a := q.num.natAbs * 2 ^ w) (d := q.den)
  have g := le_floor (a := q.num.natAbs * 2 ^ w) (d := q.den) q.den_pos
  have e : ((q.num.natAbs * 2 ^ w : Nat) : Rat) = q * p2 w * (q.den : Rat) := by
    rw [cm]
    have h := num_den' q
    have h2 : ((q.num.natAbs : Nat) : Rat) = (q.num : Rat) := by
      have : (q.num.natAbs : Int) = q.num := Int.natAbs_of_nonneg (Rat.num_nonneg.2 h0)
      rw [← this]; rfl
    rw [h2, ← h]
    show q * (q.den : Rat) * p2 w = _
    grind
  rw [e] at f g
  exact ⟨le_by D f, le_by D g⟩
theorem pw_enc {q : Rat} (h0 : 0 ≤ q) (hA : A ≤ 15) : Enc w (pwN q A w).1 (pwN q A w).2 (pwR q A) := by
  have one : Enc w (2 ^ w) (2 ^ w + 1) 1 := by
    refine ⟨by rw [Rat.one_mul]; exact Rat.le_refl, ?_⟩
    rw [Rat.one_mul]
    exact_mod_cast Nat.le_succ (2 ^ w)
  have h := powGo_enc 4 A _ _ _ _ (by omega) one (un_enc h0 w)
  rw [Rat.one_mul] at h
  exact h
theorem fs_enc (h0 : 0 ≤ x) (h1 : x ≤ 1) (hA : A ≤ 15) (hB : B ≤ 15) : Enc w (fsN x A B w).1 (fsN x A B w).2 (((cc (B - 1) A : Nat) : Rat) * (pwR x A * pwR (1 - x) B)) := by
  have m := enc_mul (pw_enc (w := w) h0 hA) (pw_enc (w := w) (q := 1 - x) (by grind) hB)
  have t := enc_times (n := cc (B - 1) A) (d := 1) (by omega) m
  rw [Nat.div_one, Nat.div_one] at t
  have e : pwR x A * pwR (1 - x) B * ((cc (B - 1) A : Nat) : Rat) / ((1 : Nat) : Rat) = ((cc (B - 1) A : Nat) : Rat) * (pwR x A * pwR (1 - x) B) := by
    have : ((1 : Nat) : Rat) = 1 := rfl
    rw [this, Rat.div_def, show (1 : Rat)⁻¹ = 1 from by decide +kernel, Rat.mul_one, Rat.mul_comm]
  rw [e] at t
  exact t
/-- What the row tells has the share, and is narrow. -/
theorem row_has {A' B' K : Nat} (hA : 1 ≤ A) (hB : 1 ≤ B) (hAB : A + B ≤ 10) (h0 : 0 ≤ x) (h1 : x + x ≤ 1) (hw0 : 60 ≤ w) (hw : w ≤ 400)
    (hg : rowGo w (unN x w) (unN x w + 1) (2 * A) (2 * B) 2201 0 (fsN x A B w).1 (fsN x A B w).2 (fsN x A B w).1 (fsN x A B w).2 = some (A', B', K)) :
    (A' : Rat) ≤ sS x (1 - x) (A + B - 1) B * p2 w ∧ sS x (1 - x) (A + B - 1) B * p2 w ≤ (B' : Rat) ∧ B' ≤ A' + 2 ^ 102 ∧ B' ≤ 2 ^ (w + 61) := by
  obtain ⟨hP, hy, -⟩ := row_ends hA hB hAB h0 h1 hw0 hw
  have ok := fs_ok hA hB hAB h0 (show x ≤ 1 by grind) hw0
  have hp9 : 2 ^ (w + 9) = 2 ^ w * 512 := by rw [Nat.pow_add]
  have h40 : 4 ^ (2 * B) ≤ 4 ^ 18 := Nat.pow_le_pow_right (by omega) (by omega)
  have hC : 4 ^ (2 * B) * 2 ^ (w + 9) ≤ 2 ^ 49 * 2 ^ w := by
    rw [hp9, Nat.mul_comm (2 ^ w) 512, ← Nat.mul_assoc]
    exact Nat.mul_le_mul_right _ (Nat.le_trans (Nat.mul_le_mul_right 512 h40) (by decide))
  obtain ⟨i1, i2, i3, i4⟩ := row_inv (a := 2 * A) (b := 2 * B) (C := 2 ^ 49) hP rfl hy (by omega) (by omega) (by omega) hC (by decide) 2201 0 _ _ _ _ hg ok
  have enc := fs_enc (w := w) h0 (show x ≤ 1 by grind) (show A ≤ 15 by omega) (show B ≤ 15 by omega)
  have en1 : Enc w (fsN x A B w).1 (fsN x A B w).2 (((cc (B - 1) A : Nat) : Rat) * (pwR x A * pwR (1 - x) B) * rR x (2 * A) (2 * B) 0) := by
    show Enc _ _ _ (_ * 1)
    rw [Rat.mul_one]; exact enc
  have en2 : Enc w (fsN x A B w).1 (fsN x A B w).2 (((cc (B - 1) A : Nat) : Rat) * (pwR x A * pwR (1 - x) B) * sR x (2 * A) (2 * B) 0) := en1
  obtain ⟨hbK, e1, e2, e3⟩ := row_enc (un_enc h0 w) 2201 0 _ _ _ _ hg en1 en2
  have hxy : x + (1 - x) = 1 := by grind
  have s := sum_is hxy hB hA K
  have nn := sS_nn h0 (show 0 ≤ 1 - x by grind) (A + K + 1 + B - 1) B
  have st := share_step hxy hB (A + K)
  have le := share_le h0 (show x ≤ 1 - x by grind) hxy hB (m := A + K) (by omega)
  have tm := term_is (x := x) (y := 1 - x) hB hA K
  have tn := trm_nn h0 (show 0 ≤ 1 - x by grind) (A + K + B - 1) (B - 1)
  have P := p2_pos w
  rw [← tm] at le st
  rw [s]
  generalize ((cc (B - 1) A : Nat) : Rat) * (pwR x A * pwR (1 - x) B) = c at *
  generalize rR x (2 * A) (2 * B) K = r at *
  generalize sR x (2 * A) (2 * B) K = q at *
  generalize sS x (1 - x) (A + K + 1 + B - 1) B = rem at *
  generalize sS x (1 - x) (A + K + B - 1) B = rem' at *
  have tn2 : 0 ≤ c * r := by rw [tm]; exact Rat.mul_nonneg tn (by grind)
  have hr : rem ≤ 4 * (c * r) := by grind
  have hr2 := Rat.mul_le_mul_of_nonneg_right hr (show 0 ≤ p2 w by grind)
  have nn2 : 0 ≤ rem * p2 w := Rat.mul_nonneg nn (by grind)
  refine ⟨?_, ?_, ?_, ?_⟩
  · grind
  · grind
  · have b1 : (K + 1) * (4 ^ (2 * B) * 2 ^ 54) ≤ 2201 * (4 ^ 18 * 2 ^ 54) := Nat.mul_le_mul (by omega) (Nat.mul_le_mul_right _ h40)
    have b2 : 2201 * (4 ^ 18 * 2 ^ 54) + 64 ≤ 2 ^ 102 := by decide
    omega
  · have b1 : (K + 1) * (4 ^ (2 * B) * 2 ^ (w + 9)) ≤ 2201 * (2 ^ 49 * 2 ^ w) := Nat.mul_le_mul (by omega) hC
    have b2 : 2 ^ (w + 61) = 4096 * (2 ^ 49 * 2 ^ w) := by rw [show w + 61 = 12 + (49 + w) by omega, Nat.pow_add, Nat.pow_add]
    have b3 : 64 ≤ 2 ^ 49 * 2 ^ w := Nat.le_trans (by decide) (Nat.le_mul_of_pos_right (2 ^ 49) (by omega))
    omega
theorem p2_ad (a b : Nat) : p2 (a + b) = p2 a * p2 b := by
  show ((2 ^ (a + b) : Nat) : Rat) = ((2 ^ a : Nat) : Rat) * ((2 ^ b : Nat) : Rat)
  rw [← cm, ← Nat.pow_add]
theorem told_has {A' B' p : Nat} {V : Rat} (h1 : (A' : Rat) ≤ V * p2 (p + 300)) (h2 : V * p2 (p + 300) ≤ (B' : Rat)) (h3 : B' ≤ A' + 2 ^ 102) :
    mkRat ((A' / 2 ^ (p + 300 - (p + 2)) : Nat) : Int) (2 ^ (p + 2)) ≤ V ∧ V ≤ mkRat ((B' / 2 ^ (p + 300 - (p + 2)) + 1 : Nat) : Int) (2 ^ (p + 2)) ∧
      (mkRat ((B' / 2 ^ (p + 300 - (p + 2)) + 1 : Nat) : Int) (2 ^ (p + 2)) - mkRat ((A' / 2 ^ (p + 300 - (p + 2)) : Nat) : Int) (2 ^ (p + 2))) * p2 p ≤ 1 := by
  have P1 := p2_pos (p + 2)
  have P2 := p2_pos 298
  rw [show p + 300 - (p + 2) = 298 by omega]
  have m : ∀ a : Nat, mkRat (a : Int) (2 ^ (p + 2)) * p2 (p + 2) = (a : Rat) := by
    intro a
    rw [Rat.mkRat_eq_div]
    exact Rat.div_mul_cancel (by have : (0 : Rat) < ((2 ^ (p + 2) : Nat) : Rat) := P1; grind)
  have hsp : p2 (p + 300) = p2 (p + 2) * p2 298 := by rw [show p + 300 = (p + 2) + 298 by omega, p2_ad]
  have f := floor_le (a := A') (d := 2 ^ 298)
  have g := le_floor (a := B') (d := 2 ^ 298) (Nat.pow_pos (by omega))
  have m1 := m (A' / 2 ^ 298)
  have m2 := m (B' / 2 ^ 298 + 1)
  have gap : B' / 2 ^ 298 ≤ A' / 2 ^ 298 + 1 := by
    obtain ⟨E, hE⟩ : ∃ E : Nat, E = 298 := ⟨_, rfl⟩
    have h6 : 2 ^ 102 ≤ 2 ^ E := Nat.pow_le_pow_right (by omega) (by omega)
    have h4 : B' ≤ A' + 2 ^ E := Nat.le_trans h3 (Nat.add_le_add_left h6 _)
    have h5 := Nat.div_le_div_right (c := 2 ^ E) h4
    rw [Nat.add_div_right _ (Nat.pow_pos (by omega)), hE] at h5
    exact h5
  have gapR : ((B' / 2 ^ 298 + 1 : Nat) : Rat) ≤ ((A' / 2 ^ 298 : Nat) : Rat) + 2 := by
    have : ((A' / 2 ^ 298 : Nat) : Rat) + 2 = ((A' / 2 ^ 298 + 2 : Nat) : Rat) := by exact_mod_cast rfl
    rw [this]
    exact_mod_cast (show B' / 2 ^ 298 + 1 ≤ A' / 2 ^ 298 + 2 by omega)
  have hp2 : p2 (p + 2) = p2 p * 4 := by
    show ((2 ^ (p + 2) : Nat) : Rat) = ((2 ^ p : Nat) : Rat) * ((4 : Nat) : Rat)
    rw [← cm, Nat.pow_add]
  change _ * p2 298 ≤ _ at f
  change _ ≤ _ * p2 298 at g
  generalize mkRat ((A' / 2 ^ 298 : Nat) : Int) (2 ^ (p + 2)) = q1 at *
  generalize mkRat ((B' / 2 ^ 298 + 1 : Nat) : Int) (2 ^ (p + 2)) = q2 at *
  refine ⟨le_by P1 ?_, le_by P1 ?_, ?_⟩
  · rw [m1]
    refine le_by P2 ?_
    have : V * p2 (p + 2) * p2 298 = V * p2 (p + 300) := by rw [hsp]; grind
    rw [this]; exact Rat.le_trans f h1
  · rw [m2]
    refine le_by P2 ?_
    have : V * p2 (p + 2) * p2 298 = V * p2 (p + 300) := by rw [hsp]; grind
    rw [this]; exact Rat.le_trans h2 g
  · rw [hp2] at m1 m2
    grind
end
end Go.Proofs.YtigiblhmhmgagaaGreat

/- slices.Equal, rat.Same; incb.I of whole numbers, in the evaluator. -/
namespace Go.Proofs.YtigiblhmhmgagaaGreat
set_option linter.unusedSimpArgs false
set_option linter.unusedVariables false
set_option maxRecDepth 8000
open Go.Ev
theorem slices_Equal (a b : List Nat) (ha : a.length ≤ 274877906944) (hb : b.length ≤ 274877906944) : Go.Ev.Fn CX 48 [natV a, natV b] (.bool (decide (a = b))) := by
  refine Go.Ev.Fn.intro (fn := Tryz.f48) (body := (Tryz.f48).body.get!) (by kernel_rfl) (by kernel_rfl) (by kernel_rfl) (fun _ => rfl) (Nat.le_of_ble_eq_true (by kernel_rfl)) ?_; unfold Tryz.f48; simp only [Option.get!_some]
  by_cases hl : a.length = b.length
  · repeat (first | (simp only [go_sem, Nat.reduceEqDiff, Nat.reduceAdd, Nat.reduceSub, Nat.reduceMul, Nat.reduceLeDiff, Nat.reduceLT, reduceIte, reduceCtorEq, Nat.succ_ne_zero, elemsC, Int.reduceToNat, Nat.reducePow]) | (simp (disch := (first | omega | (simp only [AL, List.length_map]; omega))) only [AR, AL, ifT, ifF, take_all, List.length_cons, List.length_nil, Int.reduceToNat, Int.reducePow, Nat.reducePow]) | (refine wk_intro (by kernel_rfl) ?_) | (refine vp_draw (id := 6) (l := []) (by kernel_rfl) ?_))
    refine vp_loop_inv (fun s => s.tmp 0 = .sv (natV a) ∧ s.tmp 1 = .sv (natV b) ∧ s.tmp 12 = .sv (.int .i64 (a.length : Int)) ∧ ∃ i : Nat, s.tmp 13 = .sv (.int .i64 i) ∧ i ≤ a.length ∧ a.take i = b.take i) (fun s => match s.tmp 13 with | .sv (.int _ i) => a.length - i.toNat | _ => 0) ⟨rfl, rfl, rfl, 0, rfl, by omega, rfl⟩ ?_
    rintro s ⟨i0, i1, i12, i, i13, hi, ht⟩
    by_cases hend : i = a.length
    · subst hend
      rw [List.take_length, hl, List.take_length] at ht
      rw [decide_eq_true ht]
      repeat (first | (simp only [go_sem, Nat.reduceEqDiff, Nat.reduceAdd, Nat.reduceSub, Nat.reduceMul, Nat.reduceLeDiff, Nat.reduceLT, reduceIte, reduceCtorEq, Nat.succ_ne_zero, elemsC, Int.reduceToNat, Nat.reducePow, i0, i1, i12, i13]) | (simp (disch := (first | omega | (simp only [AL, List.length_map]; omega))) only [AR, AL, ifT, ifF, take_all, List.length_cons, List.length_nil, Int.reduceToNat, Int.reducePow, Nat.reducePow, i0, i1, i12, i13]) | (refine wk_intro (by kernel_rfl) ?_) | (refine vp_draw (id := 6) (l := []) (by kernel_rfl) ?_))
    · have e : ∀ c : List Nat, i < c.length → c.take (i + 1) = c.take i ++ [c.getD i 0] := by
        intro c hc
        rw [List.take_add_one, List.getD_eq_getElem?_getD, List.getElem?_eq_getElem hc]
        rfl
      by_cases hx : a.getD i 0 = b.getD i 0
      · repeat (first | (simp only [go_sem, Nat.reduceEqDiff, Nat.reduceAdd, Nat.reduceSub, Nat.reduceMul, Nat.reduceLeDiff, Nat.reduceLT, reduceIte, reduceCtorEq, Nat.succ_ne_zero, elemsC, Int.reduceToNat, Nat.reducePow, i0, i1, i12, i13]) | (simp (disch := (first | omega | (simp only [AL, List.length_map]; omega))) only [AR, AL, ifT, ifF, take_all, List.length_cons, List.length_nil, Int.reduceToNat, Int.reducePow, Nat.reducePow, i0, i1, i12, i13]) | (refine wk_intro (by kernel_rfl) ?_) | (refine vp_draw (id := 6) (l := []) (by kernel_rfl) ?_))
        exact ⟨⟨i + 1, rfl, by omega, by rw [e a (by omega), e b (by omega), ht, hx]⟩, by omega⟩
      · rw [decide_eq_false (fun h => hx (by rw [h]))]
        repeat (first | (simp only [go_sem, Nat.reduceEqDiff, Nat.reduceAdd, Nat.reduceSub, Nat.reduceMul, Nat.reduceLeDiff, Nat.reduceLT, reduceIte, reduceCtorEq, Nat.succ_ne_zero, elemsC, Int.reduceToNat, Nat.reducePow, i0, i1, i12, i13]) | (simp (disch := (first | omega | (simp only [AL, List.length_map]; omega))) only [AR, AL, ifT, ifF, take_all, List.length_cons, List.length_nil, Int.reduceToNat, Int.reducePow, Nat.reducePow, i0, i1, i12, i13]) | (refine wk_intro (by kernel_rfl) ?_) | (refine vp_draw (id := 6) (l := []) (by kernel_rfl) ?_))
  · rw [decide_eq_false (fun h => hl (by rw [h]))]
    repeat (first | (simp only [go_sem, Nat.reduceEqDiff, Nat.reduceAdd, Nat.reduceSub, Nat.reduceMul, Nat.reduceLeDiff, Nat.reduceLT, reduceIte, reduceCtorEq, Nat.succ_ne_zero, elemsC, Int.reduceToNat, Nat.reducePow]) | (simp (disch := (first | omega | (simp only [AL, List.length_map]; omega))) only [AR, AL, ifT, ifF, take_all, List.length_cons, List.length_nil, Int.reduceToNat, Int.reducePow, Nat.reducePow]) | (refine wk_intro (by kernel_rfl) ?_) | (refine vp_draw (id := 6) (l := []) (by kernel_rfl) ?_))
theorem rat_Same {v w : SV} {q r : Rat} {L M : Nat} (hv : RatA v q L) (hw : RatA w r M) (hL : 1 ≤ L) (hM : 1 ≤ M) (h : L + M ≤ 8388608) : Go.Ev.Fn CX 25 [v, w] (.bool (decide (q = r))) := by
  have hnv := rat_Norm hv (by omega)
  have hnw := rat_Norm hw (by omega)
  obtain ⟨z1, z2⟩ := szR_of hv hL
  obtain ⟨y1, y2⟩ := szR_of hw hM
  have l1 := slices_Equal (lim q.num.natAbs) (lim r.num.natAbs) (by omega) (by omega)
  have l2 := slices_Equal (lim q.den) (lim r.den) (by omega) (by omega)
  have hbb := beq_bool (decide (q.num < 0)) (decide (r.num < 0))
  obtain ⟨s, n, d, rfl, -⟩ := hv
  obtain ⟨s', n', d', rfl, -⟩ := hw
  refine Go.Ev.Fn.intro (fn := Tryz.f25) (body := (Tryz.f25).body.get!) (by kernel_rfl) (by kernel_rfl) (by kernel_rfl) (fun _ => rfl) (Nat.le_of_ble_eq_true (by kernel_rfl)) ?_; unfold Tryz.f25; simp only [Option.get!_some]
  repeat (first | (simp only [go_sem, Nat.reduceEqDiff, Nat.reduceAdd, Nat.reduceSub, Nat.reduceMul, Nat.reduceLeDiff, Nat.reduceLT, reduceIte, reduceCtorEq, Nat.succ_ne_zero, elemsC, Int.reduceToNat, Nat.reducePow, hbb]) | (simp (disch := (first | omega | (simp only [AL, List.length_map]; omega))) only [AR, AL, ifT, ifF, take_all, List.length_cons, List.length_nil, Int.reduceToNat, Int.reducePow, Nat.reducePow, hbb]) | (refine wk_intro (by kernel_rfl) ?_) | (refine vp_draw (id := 1) (l := []) (by kernel_rfl) ?_) | (refine vf_of (by first | exact hnv | exact hnw) ?_))
  by_cases h1 : decide (q.num < 0) = decide (r.num < 0)
  · rw [decide_eq_true h1]
    by_cases h2 : lim q.num.natAbs = lim r.num.natAbs
    · rw [decide_eq_true h2] at l1
      repeat (first | (simp only [go_sem, Nat.reduceEqDiff, Nat.reduceAdd, Nat.reduceSub, Nat.reduceMul, Nat.reduceLeDiff, Nat.reduceLT, reduceIte, reduceCtorEq, Nat.succ_ne_zero, elemsC, Int.reduceToNat, Nat.reducePow]) | (simp (disch := (first | omega | (simp only [AL, List.length_map]; omega))) only [AR, AL, ifT, ifF, take_all, List.length_cons, List.length_nil, Int.reduceToNat, Int.reducePow, Nat.reducePow]) | (refine wk_intro (by kernel_rfl) ?_) | (refine vp_draw (id := 1) (l := []) (by kernel_rfl) ?_))
      have e : decide (lim q.den = lim r.den) = decide (q = r) := by
        by_cases h3 : lim q.den = lim r.den
        · rw [decide_eq_true h3, decide_eq_true (rv_eq h1 h2 h3)]
        · rw [decide_eq_false h3, decide_eq_false (fun e => h3 (by rw [e]))]
      rw [e] at l2
      repeat (first | (simp only [go_sem, Nat.reduceEqDiff, Nat.reduceAdd, Nat.reduceSub, Nat.reduceMul, Nat.reduceLeDiff, Nat.reduceLT, reduceIte, reduceCtorEq, Nat.succ_ne_zero, elemsC, Int.reduceToNat, Nat.reducePow]) | (simp (disch := (first | omega | (simp only [AL, List.length_map]; omega))) only [AR, AL, ifT, ifF, take_all, List.length_cons, List.length_nil, Int.reduceToNat, Int.reducePow, Nat.reducePow]) | (refine wk_intro (by kernel_rfl) ?_) | (refine vp_draw (id := 1) (l := []) (by kernel_rfl) ?_) | (refine vf_of (by first | exact l1 | exact l2) ?_))
    · rw [decide_eq_false h2] at l1
      have hne : q ≠ r := fun e => h2 (by rw [e])
      rw [decide_eq_false hne]
      repeat (first | (simp only [go_sem, Nat.reduceEqDiff, Nat.reduceAdd, Nat.reduceSub, Nat.reduceMul, Nat.reduceLeDiff, Nat.reduceLT, reduceIte, reduceCtorEq, Nat.succ_ne_zero, elemsC, Int.reduceToNat, Nat.reducePow]) | (simp (disch := (first | omega | (simp only [AL, List.length_map]; omega))) only [AR, AL, ifT, ifF, take_all, List.length_cons, List.length_nil, Int.reduceToNat, Int.reducePow, Nat.reducePow]) | (refine wk_intro (by kernel_rfl) ?_) | (refine vp_draw (id := 1) (l := []) (by kernel_rfl) ?_) | (refine vf_of (by first | exact l1) ?_))
  · have hne : q ≠ r := fun e => h1 (by rw [e])
    rw [decide_eq_false h1, decide_eq_false hne]
    repeat (first | (simp only [go_sem, Nat.reduceEqDiff, Nat.reduceAdd, Nat.reduceSub, Nat.reduceMul, Nat.reduceLeDiff, Nat.reduceLT, reduceIte, reduceCtorEq, Nat.succ_ne_zero, elemsC, Int.reduceToNat, Nat.reducePow]) | (simp (disch := (first | omega | (simp only [AL, List.length_map]; omega))) only [AR, AL, ifT, ifF, take_all, List.length_cons, List.length_nil, Int.reduceToNat, Int.reducePow, Nat.reducePow]) | (refine wk_intro (by kernel_rfl) ?_) | (refine vp_draw (id := 1) (l := []) (by kernel_rfl) ?_))
theorem neg_num {x : Rat} : decide (x.num < 0) = decide (x < 0) := by
  have h := Rat.num_nonneg (q := x)
  refine decide_eq_decide.2 ⟨fun g => ?_, fun g => ?_⟩
  · have : ¬ 0 ≤ x := fun k => absurd (h.2 k) (by omega)
    grind
  · rcases Int.lt_or_le x.num 0 with k | k
    · exact k
    · exact absurd (h.1 k) (by grind)
section
variable {v : SV} {x : Rat} {A B p L : Nat}
theorem erv {x : Rat} (h : decide (x.num < 0) = false) : rv x = ratV false (lim x.num.natAbs) (lim x.den) := by show ratV (decide (x.num < 0)) _ _ = _; rw [h]
theorem incb_I_out {a b : Int} {pI : Int} (hv : RatA v x L) (hL1 : 1 ≤ L) (hL : L ≤ 3) (ha : 1 ≤ a ∧ a ≤ 256) (hb : 1 ≤ b ∧ b ≤ 256) (h : x < 0 ∨ 1 < x) : Go.Ev.Fn CX 8 [.int .i64 a, .int .i64 b, v, .int .i64 pI] (.tup [ballR 0 0, .bool false]) := by
  have n1 := rat_Norm hv (by omega)
  have zx := szR_of hv hL1
  have i1 := rat_Int 1 (by omega)
  have i0 := rat_Int 0 (by omega)
  have o := ball_Of (RatA_rv (int_szR (n := 0) (by omega))) (by omega)
  rw [show ((0 : Int) : Rat) = 0 from rfl] at i0 o
  have c1 := rat_Cmp (RatA_rv zx) (RatA_rv (int_szR (n := 1) (by omega))) hL1 (by omega) (by omega)
  rw [show ((1 : Int) : Rat) = 1 from rfl] at i1 c1
  have e1 : decide (cmpR x 1 > 0) = decide (1 < x) := cmpR_gt
  have en := neg_num (x := x)
  obtain ⟨s, n, d, rfl, -⟩ := hv
  by_cases hx : x < 0
  · rw [decide_eq_true hx] at en
    generalize cmpR x 1 = z at *
    refine Go.Ev.Fn.intro (fn := Tryz.f8) (body := (Tryz.f8).body.get!) (by kernel_rfl) (by kernel_rfl) (by kernel_rfl) (fun _ => rfl) (Nat.le_of_ble_eq_true (by kernel_rfl)) ?_; unfold Tryz.f8; simp only [Option.get!_some]
    repeat (first | (simp only [go_sem, Nat.reduceEqDiff, Nat.reduceAdd, Nat.reduceSub, Nat.reduceMul, Nat.reduceLeDiff, Nat.reduceLT, reduceIte, reduceCtorEq, Nat.succ_ne_zero, elemsC, Int.reduceToNat, Nat.reducePow, en]) | (simp (disch := (first | omega | (simp only [AL, List.length_map]; omega))) only [AR, AL, ifT, ifF, take_all, List.length_cons, List.length_nil, Int.reduceToNat, Int.reducePow, Nat.reducePow, en]) | (refine wk_intro (by kernel_rfl) ?_) | (refine vp_draw (id := 9) (l := []) (by kernel_rfl) ?_) | (refine vp_draw (id := 11) (l := []) (by kernel_rfl) ?_) | (refine vf_of (by first | exact n1 | exact i1 | exact c1 | exact i0 | exact o) ?_))
  · rw [decide_eq_false hx] at en
    rw [decide_eq_true (h.resolve_left hx)] at e1
    rw [erv en] at n1 c1
    generalize cmpR x 1 = z at *
    refine Go.Ev.Fn.intro (fn := Tryz.f8) (body := (Tryz.f8).body.get!) (by kernel_rfl) (by kernel_rfl) (by kernel_rfl) (fun _ => rfl) (Nat.le_of_ble_eq_true (by kernel_rfl)) ?_; unfold Tryz.f8; simp only [Option.get!_some]
    repeat (first | (simp only [go_sem, Nat.reduceEqDiff, Nat.reduceAdd, Nat.reduceSub, Nat.reduceMul, Nat.reduceLeDiff, Nat.reduceLT, reduceIte, reduceCtorEq, Nat.succ_ne_zero, elemsC, Int.reduceToNat, Nat.reducePow, en, e1]) | (simp (disch := (first | omega | (simp only [AL, List.length_map]; omega))) only [AR, AL, ifT, ifF, take_all, List.length_cons, List.length_nil, Int.reduceToNat, Int.reducePow, Nat.reducePow, en, e1]) | (refine wk_intro (by kernel_rfl) ?_) | (refine vp_draw (id := 9) (l := []) (by kernel_rfl) ?_) | (refine vp_draw (id := 11) (l := []) (by kernel_rfl) ?_) | (refine vf_of (by first | exact n1 | exact i1 | exact c1 | exact i0 | exact o) ?_))
theorem incb_I_ends {a b : Int} {pI : Int} (hv : RatA v x L) (hL1 : 1 ≤ L) (hL : L ≤ 3) (ha : 1 ≤ a ∧ a ≤ 256) (hb : 1 ≤ b ∧ b ≤ 256) (h : x = 0 ∨ x = 1) : Go.Ev.Fn CX 8 [.int .i64 a, .int .i64 b, v, .int .i64 pI] (.tup [ballR x x, .bool true]) := by
  have n1 := rat_Norm hv (by omega)
  have zx := szR_of hv hL1
  have i1 := rat_Int 1 (by omega)
  have o := ball_Of (RatA_rv zx) (by omega)
  have c1 := rat_Cmp (RatA_rv zx) (RatA_rv (int_szR (n := 1) (by omega))) hL1 (by omega) (by omega)
  have zr := rat_Zero (RatA_rv zx) hL1 (by omega)
  have sm := rat_Same (RatA_rv zx) (RatA_rv (int_szR (n := 1) (by omega))) hL1 (by omega) (by omega)
  rw [show ((1 : Int) : Rat) = 1 from rfl] at i1 c1 sm
  have e1 : decide (cmpR x 1 > 0) = false := by rw [cmpR_gt]; exact decide_eq_false (by rcases h with rfl | rfl <;> decide +kernel)
  have en : decide (x.num < 0) = false := by rw [neg_num]; exact decide_eq_false (by rcases h with rfl | rfl <;> decide +kernel)
  rw [erv en] at n1 c1 zr sm o
  obtain ⟨s, n, d, rfl, -⟩ := hv
  generalize cmpR x 1 = z at *
  by_cases hx : x = 0
  · rw [decide_eq_true hx] at zr
    clear hx h
    refine Go.Ev.Fn.intro (fn := Tryz.f8) (body := (Tryz.f8).body.get!) (by kernel_rfl) (by kernel_rfl) (by kernel_rfl) (fun _ => rfl) (Nat.le_of_ble_eq_true (by kernel_rfl)) ?_; unfold Tryz.f8; simp only [Option.get!_some]
    repeat (first | (simp only [go_sem, Nat.reduceEqDiff, Nat.reduceAdd, Nat.reduceSub, Nat.reduceMul, Nat.reduceLeDiff, Nat.reduceLT, reduceIte, reduceCtorEq, Nat.succ_ne_zero, elemsC, Int.reduceToNat, Nat.reducePow, en, e1]) | (simp (disch := (first | omega | (simp only [AL, List.length_map]; omega))) only [AR, AL, ifT, ifF, take_all, List.length_cons, List.length_nil, Int.reduceToNat, Int.reducePow, Nat.reducePow, en, e1]) | (refine wk_intro (by kernel_rfl) ?_) | (refine vp_draw (id := 9) (l := []) (by kernel_rfl) ?_) | (refine vp_draw (id := 11) (l := []) (by kernel_rfl) ?_) | (refine vf_of (by first | exact n1 | exact i1 | exact c1 | exact zr | exact o) ?_))
    show _ = SV.agg [.bool (decide (x.num < 0)), natV (lim x.num.natAbs), natV (lim x.den), .bool (decide (x.num < 0)), natV (lim x.num.natAbs), natV (lim x.den)]
    rw [en]
  · rw [decide_eq_false hx] at zr
    rw [decide_eq_true (h.resolve_left hx)] at sm
    clear hx h
    refine Go.Ev.Fn.intro (fn := Tryz.f8) (body := (Tryz.f8).body.get!) (by kernel_rfl) (by kernel_rfl) (by kernel_rfl) (fun _ => rfl) (Nat.le_of_ble_eq_true (by kernel_rfl)) ?_; unfold Tryz.f8; simp only [Option.get!_some]
    repeat (first | (simp only [go_sem, Nat.reduceEqDiff, Nat.reduceAdd, Nat.reduceSub, Nat.reduceMul, Nat.reduceLeDiff, Nat.reduceLT, reduceIte, reduceCtorEq, Nat.succ_ne_zero, elemsC, Int.reduceToNat, Nat.reducePow, en, e1]) | (simp (disch := (first | omega | (simp only [AL, List.length_map]; omega))) only [AR, AL, ifT, ifF, take_all, List.length_cons, List.length_nil, Int.reduceToNat, Int.reducePow, Nat.reducePow, en, e1]) | (refine wk_intro (by kernel_rfl) ?_) | (refine vp_draw (id := 9) (l := []) (by kernel_rfl) ?_) | (refine vp_draw (id := 11) (l := []) (by kernel_rfl) ?_) | (refine vf_of (by first | exact n1 | exact i1 | exact c1 | exact zr | exact sm | exact o) ?_))
    show _ = SV.agg [.bool (decide (x.num < 0)), natV (lim x.num.natAbs), natV (lim x.den), .bool (decide (x.num < 0)), natV (lim x.num.natAbs), natV (lim x.den)]
    rw [en]
set_option maxHeartbeats 1000000 in
theorem incb_I_low {A' B' K : Nat} (hv : RatA v x L) (hL1 : 1 ≤ L) (hL : L ≤ 3) (hA : 1 ≤ A) (hB : 1 ≤ B) (hAB : A + B ≤ 10) (hp : p ≤ 60) (h0 : 0 < x) (h1 : x + x ≤ 1)
    (hg : rowGo (p + 300) (unN x (p + 300)) (unN x (p + 300) + 1) (2 * A) (2 * B) 2201 0 (fsN x A B (p + 300)).1 (fsN x A B (p + 300)).2 (fsN x A B (p + 300)).1 (fsN x A B (p + 300)).2 = some (A', B', K)) (hl : (lim A').length ≤ 100 ∧ (lim B').length ≤ 100) :
    Go.Ev.Fn CX 8 [.int .i64 (2 * (A : Int)), .int .i64 (2 * (B : Int)), v, .int .i64 (p : Int)] (.tup [ballR (mkRat ((A' / 2 ^ (p + 300 - (p + 2)) : Nat) : Int) (2 ^ (p + 2))) (mkRat ((B' / 2 ^ (p + 300 - (p + 2)) + 1 : Nat) : Int) (2 ^ (p + 2))), .bool true]) := by
  have n1 := rat_Norm hv (by omega)
  have zx := szR_of hv hL1
  have i1 := rat_Int 1 (by omega)
  have c1 := rat_Cmp (RatA_rv zx) (RatA_rv (int_szR (n := 1) (by omega))) hL1 (by omega) (by omega)
  have zr := rat_Zero (RatA_rv zx) hL1 (by omega)
  rw [decide_eq_false (by clear hg; grind)] at zr
  have sm := rat_Same (RatA_rv zx) (RatA_rv (int_szR (n := 1) (by omega))) hL1 (by omega) (by omega)
  have ad := rat_Add (RatA_rv zx) (RatA_rv zx) hL1 hL1 (by omega)
  have c2 := rat_Cmp (RatA_rv (szR_add zx zx hL1)) (RatA_rv (int_szR (n := 1) (by omega))) (by omega) (by omega) (by omega)
  rw [show ((1 : Int) : Rat) = 1 from rfl] at i1 c1 sm c2
  rw [decide_eq_false (show ¬ x = 1 by clear hg; grind)] at sm
  have e1 : decide (cmpR x 1 > 0) = false := by rw [cmpR_gt]; exact decide_eq_false (by clear hg; grind)
  have e2 : decide (cmpR (x + x) 1 ≤ 0) = true := by rw [cmpR_le]; exact decide_eq_true h1
  have en : decide (x.num < 0) = false := by rw [neg_num]; exact decide_eq_false (by clear hg; grind)
  have rw1 := incb_row (w := p + 300) hA hB hAB zx hL1 hL (show 0 ≤ x by clear hg; grind) h1 (by omega) (by omega) hg
  have td := fix_Told (a := A') (b := B') (w := p + 300) (p := p + 2) (by omega) (by omega) (by omega) (by omega)
  have x1 : (if (0 : Int) > (p : Int) then (0 : Int) else (p : Int)) = (p : Int) := if_neg (by omega)
  have x2 : (if (200 : Int) < (p : Int) then (200 : Int) else (p : Int)) = (p : Int) := if_neg (by omega)
  rw [show ((p + 300 : Nat) : Int) = (p : Int) + 300 from rfl] at rw1 td
  rw [show ((p + 2 : Nat) : Int) = (p : Int) + 2 from rfl] at td
  generalize mkRat ((A' / 2 ^ (p + 300 - (p + 2)) : Nat) : Int) (2 ^ (p + 2)) = q1 at *
  generalize mkRat ((B' / 2 ^ (p + 300 - (p + 2)) + 1 : Nat) : Int) (2 ^ (p + 2)) = q2 at *
  rw [erv en] at n1 c1 zr sm ad rw1
  obtain ⟨s, n, d, rfl, -⟩ := hv
  clear hg h0 h1
  generalize cmpR x 1 = z at *
  generalize x + x = xx at *
  generalize cmpR xx 1 = z2 at *
  refine Go.Ev.Fn.intro (fn := Tryz.f8) (body := (Tryz.f8).body.get!) (by kernel_rfl) (by kernel_rfl) (by kernel_rfl) (fun _ => rfl) (Nat.le_of_ble_eq_true (by kernel_rfl)) ?_; unfold Tryz.f8; simp only [Option.get!_some]
  repeat (first | (simp only [go_sem, Nat.reduceEqDiff, Nat.reduceAdd, Nat.reduceSub, Nat.reduceMul, Nat.reduceLeDiff, Nat.reduceLT, reduceIte, reduceCtorEq, Nat.succ_ne_zero, elemsC, Int.reduceToNat, Nat.reducePow, en, x1, x2, e1, e2]) | (simp (disch := (first | omega | (simp only [AL, List.length_map]; omega))) only [AR, AL, ifT, ifF, take_all, List.length_cons, List.length_nil, Int.reduceToNat, Int.reducePow, Nat.reducePow, en, x1, x2, e1, e2]) | (refine wk_intro (by kernel_rfl) ?_) | (refine vp_draw (id := 9) (l := []) (by kernel_rfl) ?_) | (refine vp_draw (id := 11) (l := []) (by kernel_rfl) ?_) | (refine vf_of (by first | exact n1 | exact i1 | exact c1 | exact zr | exact sm | exact ad | exact c2 | exact rw1 | exact td) ?_))
set_option maxHeartbeats 1000000 in
theorem incb_I_high {A' B' K : Nat} (hv : RatA v x L) (hL1 : 1 ≤ L) (hL : L ≤ 1) (hA : 1 ≤ A) (hB : 1 ≤ B) (hAB : A + B ≤ 10) (hp : p ≤ 60) (h0 : 1 < x + x) (h1 : x < 1)
    (hg : rowGo (p + 300) (unN (1 - x) (p + 300)) (unN (1 - x) (p + 300) + 1) (2 * B) (2 * A) 2201 0 (fsN (1 - x) B A (p + 300)).1 (fsN (1 - x) B A (p + 300)).2 (fsN (1 - x) B A (p + 300)).1 (fsN (1 - x) B A (p + 300)).2 = some (A', B', K)) (hl : (lim A').length ≤ 100 ∧ (lim B').length ≤ 100) :
    Go.Ev.Fn CX 8 [.int .i64 (2 * (A : Int)), .int .i64 (2 * (B : Int)), v, .int .i64 (p : Int)] (.tup [ballR (1 - mkRat ((B' / 2 ^ (p + 300 - (p + 2)) + 1 : Nat) : Int) (2 ^ (p + 2))) (1 - mkRat ((A' / 2 ^ (p + 300 - (p + 2)) : Nat) : Int) (2 ^ (p + 2))), .bool true]) := by
  have n1 := rat_Norm hv (by omega)
  have zx := szR_of hv hL1
  have i1 := rat_Int 1 (by omega)
  have c1 := rat_Cmp (RatA_rv zx) (RatA_rv (int_szR (n := 1) (by omega))) hL1 (by omega) (by omega)
  have zr := rat_Zero (RatA_rv zx) hL1 (by omega)
  rw [decide_eq_false (by clear hg; grind)] at zr
  have sm := rat_Same (RatA_rv zx) (RatA_rv (int_szR (n := 1) (by omega))) hL1 (by omega) (by omega)
  have ad := rat_Add (RatA_rv zx) (RatA_rv zx) hL1 hL1 (by omega)
  have c2 := rat_Cmp (RatA_rv (szR_add zx zx hL1)) (RatA_rv (int_szR (n := 1) (by omega))) (by omega) (by omega) (by omega)
  have b1 := ball_Of (RatA_rv (int_szR (n := 1) (by omega))) (by omega)
  have sb := rat_Sub (RatA_rv (int_szR (n := 1) (by omega))) (RatA_rv zx) (by omega) hL1 (by omega)
  have one1 : szR 1 1 := ⟨lim_len_lt (by decide +kernel), lim_len_lt (by decide +kernel)⟩
  have zy := szR_sub one1 zx (by omega)
  rw [show ((1 : Int) : Rat) = 1 from rfl] at i1 c1 sm c2 b1 sb
  rw [decide_eq_false (show ¬ x = 1 by clear hg; grind)] at sm
  have e1 : decide (cmpR x 1 > 0) = false := by rw [cmpR_gt]; exact decide_eq_false (by clear hg; grind)
  have e2 : decide (cmpR (x + x) 1 ≤ 0) = false := by rw [cmpR_le]; exact decide_eq_false (by clear hg; grind)
  have en : decide (x.num < 0) = false := by rw [neg_num]; exact decide_eq_false (by clear hg; grind)
  have rw1 := incb_row (w := p + 300) hB hA (by omega) zy (by omega) (by omega) (show 0 ≤ 1 - x by clear hg; grind) (by clear hg; grind) (by omega) (by omega) hg
  have td := fix_Told (a := A') (b := B') (w := p + 300) (p := p + 2) (by omega) (by omega) (by omega) (by omega)
  have l3 := lim_len_mono (Nat.div_le_self A' (2 ^ (p + 300 - (p + 2))))
  have l4 := lim_len_mono (Nat.div_le_self B' (2 ^ (p + 300 - (p + 2))))
  have l1 := lim_len1
  have l5 := lim_len_add (a := B' / 2 ^ (p + 300 - (p + 2))) (b := 1) (L := 100) (by omega) (by omega)
  have lp := lim_len_shl (a := 1) (n := p + 2)
  rw [Nat.one_mul] at lp
  have z1 := szR_mk (s := false) (n := A' / 2 ^ (p + 300 - (p + 2))) (d := 2 ^ (p + 2)) (L := 101) (by omega) (by omega) (by omega)
  have z2 := szR_mk (s := false) (n := B' / 2 ^ (p + 300 - (p + 2)) + 1) (d := 2 ^ (p + 2)) (L := 101) (by omega) (by omega) (by omega)
  rw [show sgn false (A' / 2 ^ (p + 300 - (p + 2))) = ((A' / 2 ^ (p + 300 - (p + 2)) : Nat) : Int) from rfl] at z1
  rw [show sgn false (B' / 2 ^ (p + 300 - (p + 2)) + 1) = ((B' / 2 ^ (p + 300 - (p + 2)) + 1 : Nat) : Int) from rfl] at z2
  have bs := ball_Sub (a := 1) (b := 1) (L := 101) (szR_mono one1 (by omega)) (szR_mono one1 (by omega)) z1 z2 (by omega) (by omega)
  have x1 : (if (0 : Int) > (p : Int) then (0 : Int) else (p : Int)) = (p : Int) := if_neg (by omega)
  have x2 : (if (200 : Int) < (p : Int) then (200 : Int) else (p : Int)) = (p : Int) := if_neg (by omega)
  rw [show ((p + 300 : Nat) : Int) = (p : Int) + 300 from rfl] at rw1 td
  rw [show ((p + 2 : Nat) : Int) = (p : Int) + 2 from rfl] at td
  generalize mkRat ((A' / 2 ^ (p + 300 - (p + 2)) : Nat) : Int) (2 ^ (p + 2)) = q1 at *
  generalize mkRat ((B' / 2 ^ (p + 300 - (p + 2)) + 1 : Nat) : Int) (2 ^ (p + 2)) = q2 at *
  generalize 1 - q2 = w1 at *
  generalize 1 - q1 = w2 at *
  rw [erv en] at n1 c1 zr sm ad sb
  obtain ⟨s, n, d, rfl, -⟩ := hv
  clear hg h0 h1
  generalize cmpR x 1 = z at *
  generalize x + x = xx at *
  generalize cmpR xx 1 = z2' at *
  generalize 1 - x = y at *
  refine Go.Ev.Fn.intro (fn := Tryz.f8) (body := (Tryz.f8).body.get!) (by kernel_rfl) (by kernel_rfl) (by kernel_rfl) (fun _ => rfl) (Nat.le_of_ble_eq_true (by kernel_rfl)) ?_; unfold Tryz.f8; simp only [Option.get!_some]
  repeat (first | (simp only [go_sem, Nat.reduceEqDiff, Nat.reduceAdd, Nat.reduceSub, Nat.reduceMul, Nat.reduceLeDiff, Nat.reduceLT, reduceIte, reduceCtorEq, Nat.succ_ne_zero, elemsC, Int.reduceToNat, Nat.reducePow, en, x1, x2, e1, e2]) | (simp (disch := (first | omega | (simp only [AL, List.length_map]; omega))) only [AR, AL, ifT, ifF, take_all, List.length_cons, List.length_nil, Int.reduceToNat, Int.reducePow, Nat.reducePow, en, x1, x2, e1, e2]) | (refine wk_intro (by kernel_rfl) ?_) | (refine vp_draw (id := 9) (l := []) (by kernel_rfl) ?_) | (refine vp_draw (id := 11) (l := []) (by kernel_rfl) ?_) | (refine vf_of (by first | exact n1 | exact i1 | exact c1 | exact zr | exact sm | exact ad | exact c2 | exact b1 | exact sb | exact rw1 | exact td | exact bs) ?_))
end
end Go.Proofs.YtigiblhmhmgagaaGreat

/- incb.I of any halves, in the evaluator. -/
namespace Go.Proofs.YtigiblhmhmgagaaGreat
set_option linter.unusedSimpArgs false
set_option linter.unusedVariables false
set_option maxRecDepth 8000
open Go.Ev
set_option linter.unusedVariables false
theorem incb_I_bad {v : SV} {x : Rat} {a b pI : Int} {L : Nat} (hv : RatA v x L) (hL1 : 1 ≤ L) (hL : L ≤ 250) (ha : -9223372036854775808 ≤ a ∧ a ≤ 256) (hb : -9223372036854775808 ≤ b ∧ b ≤ 256) (h : a < 1 ∨ b < 1 ∨ x < 0 ∨ 1 < x) : Go.Ev.Fn CX 8 [.int .i64 a, .int .i64 b, v, .int .i64 pI] (.tup [ballR 0 0, .bool false]) := by
  have n1 := rat_Norm hv (by omega)
  have zx := szR_of hv hL1
  have i1 := rat_Int 1 (by omega)
  have i0 := rat_Int 0 (by omega)
  have o := ball_Of (RatA_rv (int_szR (n := 0) (by omega))) (by omega)
  rw [show ((0 : Int) : Rat) = 0 from rfl] at i0 o
  have c1 := rat_Cmp (RatA_rv zx) (RatA_rv (int_szR (n := 1) (by omega))) hL1 (by omega) (by omega)
  rw [show ((1 : Int) : Rat) = 1 from rfl] at i1 c1
  have e1 : decide (cmpR x 1 > 0) = decide (1 < x) := cmpR_gt
  have en := neg_num (x := x)
  obtain ⟨s, n, d, rfl, -⟩ := hv
  generalize cmpR x 1 = z at *
  by_cases g1 : a < 1
  · clear h e1 en
    refine Go.Ev.Fn.intro (fn := Tryz.f8) (body := (Tryz.f8).body.get!) (by kernel_rfl) (by kernel_rfl) (by kernel_rfl) (fun _ => rfl) (Nat.le_of_ble_eq_true (by kernel_rfl)) ?_; unfold Tryz.f8; simp only [Option.get!_some]
    repeat (first | (simp only [go_sem, Nat.reduceEqDiff, Nat.reduceAdd, Nat.reduceSub, Nat.reduceMul, Nat.reduceLeDiff, Nat.reduceLT, reduceIte, reduceCtorEq, Nat.succ_ne_zero, elemsC, Int.reduceToNat, Nat.reducePow]) | (simp (disch := (first | omega | (simp only [AL, List.length_map]; omega))) only [AR, AL, ifT, ifF, take_all, List.length_cons, List.length_nil, Int.reduceToNat, Int.reducePow, Nat.reducePow]) | (refine wk_intro (by kernel_rfl) ?_) | (refine vp_draw (id := 9) (l := []) (by kernel_rfl) ?_) | (refine vp_draw (id := 11) (l := []) (by kernel_rfl) ?_) | (refine vf_of (by first | exact n1 | exact i1 | exact i0 | exact o) ?_))
  by_cases g2 : b < 1
  · clear h e1 en
    refine Go.Ev.Fn.intro (fn := Tryz.f8) (body := (Tryz.f8).body.get!) (by kernel_rfl) (by kernel_rfl) (by kernel_rfl) (fun _ => rfl) (Nat.le_of_ble_eq_true (by kernel_rfl)) ?_; unfold Tryz.f8; simp only [Option.get!_some]
    repeat (first | (simp only [go_sem, Nat.reduceEqDiff, Nat.reduceAdd, Nat.reduceSub, Nat.reduceMul, Nat.reduceLeDiff, Nat.reduceLT, reduceIte, reduceCtorEq, Nat.succ_ne_zero, elemsC, Int.reduceToNat, Nat.reducePow]) | (simp (disch := (first | omega | (simp only [AL, List.length_map]; omega))) only [AR, AL, ifT, ifF, take_all, List.length_cons, List.length_nil, Int.reduceToNat, Int.reducePow, Nat.reducePow]) | (refine wk_intro (by kernel_rfl) ?_) | (refine vp_draw (id := 9) (l := []) (by kernel_rfl) ?_) | (refine vp_draw (id := 11) (l := []) (by kernel_rfl) ?_) | (refine vf_of (by first | exact n1 | exact i1 | exact i0 | exact o) ?_))
  by_cases hx : x < 0
  · rw [decide_eq_true hx] at en
    clear h e1
    refine Go.Ev.Fn.intro (fn := Tryz.f8) (body := (Tryz.f8).body.get!) (by kernel_rfl) (by kernel_rfl) (by kernel_rfl) (fun _ => rfl) (Nat.le_of_ble_eq_true (by kernel_rfl)) ?_; unfold Tryz.f8; simp only [Option.get!_some]
    repeat (first | (simp only [go_sem, Nat.reduceEqDiff, Nat.reduceAdd, Nat.reduceSub, Nat.reduceMul, Nat.reduceLeDiff, Nat.reduceLT, reduceIte, reduceCtorEq, Nat.succ_ne_zero, elemsC, Int.reduceToNat, Nat.reducePow, en]) | (simp (disch := (first | omega | (simp only [AL, List.length_map]; omega))) only [AR, AL, ifT, ifF, take_all, List.length_cons, List.length_nil, Int.reduceToNat, Int.reducePow, Nat.reducePow, en]) | (refine wk_intro (by kernel_rfl) ?_) | (refine vp_draw (id := 9) (l := []) (by kernel_rfl) ?_) | (refine vp_draw (id := 11) (l := []) (by kernel_rfl) ?_) | (refine vf_of (by first | exact n1 | exact i1 | exact i0 | exact o) ?_))
  · rw [decide_eq_false hx] at en
    rw [decide_eq_true ((h.resolve_left g1).resolve_left g2 |>.resolve_left hx)] at e1
    rw [erv en] at n1 c1
    clear h
    refine Go.Ev.Fn.intro (fn := Tryz.f8) (body := (Tryz.f8).body.get!) (by kernel_rfl) (by kernel_rfl) (by kernel_rfl) (fun _ => rfl) (Nat.le_of_ble_eq_true (by kernel_rfl)) ?_; unfold Tryz.f8; simp only [Option.get!_some]
    repeat (first | (simp only [go_sem, Nat.reduceEqDiff, Nat.reduceAdd, Nat.reduceSub, Nat.reduceMul, Nat.reduceLeDiff, Nat.reduceLT, reduceIte, reduceCtorEq, Nat.succ_ne_zero, elemsC, Int.reduceToNat, Nat.reducePow, en, e1]) | (simp (disch := (first | omega | (simp only [AL, List.length_map]; omega))) only [AR, AL, ifT, ifF, take_all, List.length_cons, List.length_nil, Int.reduceToNat, Int.reducePow, Nat.reducePow, en, e1]) | (refine wk_intro (by kernel_rfl) ?_) | (refine vp_draw (id := 9) (l := []) (by kernel_rfl) ?_) | (refine vp_draw (id := 11) (l := []) (by kernel_rfl) ?_) | (refine vf_of (by first | exact n1 | exact i1 | exact c1 | exact i0 | exact o) ?_))
section
variable {v : SV} {x : Rat} {a b p L : Nat}
/-- What is told of so many units. -/
abbrev toldLo (A p : Nat) : Rat := mkRat ((A / 2 ^ (p + 300 - (p + 2)) : Nat) : Int) (2 ^ (p + 2))
abbrev toldHi (B p : Nat) : Rat := mkRat ((B / 2 ^ (p + 300 - (p + 2)) + 1 : Nat) : Int) (2 ^ (p + 2))
theorem told_sz {A B : Nat} (hp : p ≤ 80) (hA : (lim A).length ≤ 100) (hB : (lim B).length ≤ 100) : szR (toldLo A p) 101 ∧ szR (toldHi B p) 101 := by
  have l3 := lim_len_mono (Nat.div_le_self A (2 ^ (p + 300 - (p + 2))))
  have l4 := lim_len_mono (Nat.div_le_self B (2 ^ (p + 300 - (p + 2))))
  have l1 := lim_len1
  have l5 := lim_len_add (a := B / 2 ^ (p + 300 - (p + 2))) (b := 1) (L := 100) (by omega) (by omega)
  have lp := lim_len_shl (a := 1) (n := p + 2)
  rw [Nat.one_mul] at lp
  exact ⟨szR_mk (s := false) (n := A / 2 ^ (p + 300 - (p + 2))) (d := 2 ^ (p + 2)) (L := 101) (by omega) (by omega) (by omega), szR_mk (s := false) (n := B / 2 ^ (p + 300 - (p + 2)) + 1) (d := 2 ^ (p + 2)) (L := 101) (by omega) (by omega) (by omega)⟩
set_option maxHeartbeats 1000000 in
theorem incb_I_loP {A' B' : Nat} {pI : Int} (hpI : (pI ≤ 0 ∧ p = 0) ∨ pI = (p : Int)) (hv : RatA v x L) (hL1 : 1 ≤ L) (hL : L ≤ 200) (ha : 1 ≤ a) (ha2 : a ≤ 20) (hb : 1 ≤ b) (hb2 : b ≤ 20) (hp : p ≤ 80) (h0 : 0 < x) (h1 : x + x ≤ 1)
    (rw1 : Go.Ev.Fn CX 28 [.int .i64 (a : Int), .int .i64 (b : Int), rv x, .int .i64 ((p + 300 : Nat) : Int)] (spanV A' B')) (hl : (lim A').length ≤ 100 ∧ (lim B').length ≤ 100) :
    Go.Ev.Fn CX 8 [.int .i64 (a : Int), .int .i64 (b : Int), v, .int .i64 pI] (.tup [ballR (toldLo A' p) (toldHi B' p), .bool true]) := by
  have n1 := rat_Norm hv (by omega)
  have zx := szR_of hv hL1
  have i1 := rat_Int 1 (by omega)
  have c1 := rat_Cmp (RatA_rv zx) (RatA_rv (int_szR (n := 1) (by omega))) hL1 (by omega) (by omega)
  have zr := rat_Zero (RatA_rv zx) hL1 (by omega)
  rw [decide_eq_false (by grind)] at zr
  have sm := rat_Same (RatA_rv zx) (RatA_rv (int_szR (n := 1) (by omega))) hL1 (by omega) (by omega)
  have ad := rat_Add (RatA_rv zx) (RatA_rv zx) hL1 hL1 (by omega)
  have c2 := rat_Cmp (RatA_rv (szR_add zx zx hL1)) (RatA_rv (int_szR (n := 1) (by omega))) (by omega) (by omega) (by omega)
  rw [show ((1 : Int) : Rat) = 1 from rfl] at i1 c1 sm c2
  rw [decide_eq_false (show ¬ x = 1 by grind)] at sm
  have e1 : decide (cmpR x 1 > 0) = false := by rw [cmpR_gt]; exact decide_eq_false (by grind)
  have e2 : decide (cmpR (x + x) 1 ≤ 0) = true := by rw [cmpR_le]; exact decide_eq_true h1
  have en : decide (x.num < 0) = false := by rw [neg_num]; exact decide_eq_false (by grind)
  have td := fix_Told (a := A') (b := B') (w := p + 300) (p := p + 2) (by omega) (by omega) (by omega) (by omega)
  have x1 : (if (0 : Int) > pI then (0 : Int) else pI) = (p : Int) := by split <;> omega
  have x2 : (if (200 : Int) < (p : Int) then (200 : Int) else (p : Int)) = (p : Int) := if_neg (by omega)
  rw [show ((p + 300 : Nat) : Int) = (p : Int) + 300 from rfl] at rw1 td
  rw [show ((p + 2 : Nat) : Int) = (p : Int) + 2 from rfl] at td
  unfold toldLo toldHi
  generalize mkRat ((A' / 2 ^ (p + 300 - (p + 2)) : Nat) : Int) (2 ^ (p + 2)) = q1 at *
  generalize mkRat ((B' / 2 ^ (p + 300 - (p + 2)) + 1 : Nat) : Int) (2 ^ (p + 2)) = q2 at *
  rw [erv en] at n1 c1 zr sm ad rw1
  obtain ⟨s, n, d, rfl, -⟩ := hv
  clear h0 h1
  generalize cmpR x 1 = z at *
  generalize x + x = xx at *
  generalize cmpR xx 1 = z2 at *
  refine Go.Ev.Fn.intro (fn := Tryz.f8) (body := (Tryz.f8).body.get!) (by kernel_rfl) (by kernel_rfl) (by kernel_rfl) (fun _ => rfl) (Nat.le_of_ble_eq_true (by kernel_rfl)) ?_; unfold Tryz.f8; simp only [Option.get!_some]
  repeat (first | (simp only [go_sem, Nat.reduceEqDiff, Nat.reduceAdd, Nat.reduceSub, Nat.reduceMul, Nat.reduceLeDiff, Nat.reduceLT, reduceIte, reduceCtorEq, Nat.succ_ne_zero, elemsC, Int.reduceToNat, Nat.reducePow, en, x1, x2, e1, e2]) | (simp (disch := (first | omega | (simp only [AL, List.length_map]; omega))) only [AR, AL, ifT, ifF, take_all, List.length_cons, List.length_nil, Int.reduceToNat, Int.reducePow, Nat.reducePow, en, x1, x2, e1, e2]) | (refine wk_intro (by kernel_rfl) ?_) | (refine vp_draw (id := 9) (l := []) (by kernel_rfl) ?_) | (refine vp_draw (id := 11) (l := []) (by kernel_rfl) ?_) | (refine vf_of (by first | exact n1 | exact i1 | exact c1 | exact zr | exact sm | exact ad | exact c2 | exact rw1 | exact td) ?_))
theorem incb_I_lo {A' B' : Nat} (hv : RatA v x L) (hL1 : 1 ≤ L) (hL : L ≤ 200) (ha : 1 ≤ a) (ha2 : a ≤ 20) (hb : 1 ≤ b) (hb2 : b ≤ 20) (hp : p ≤ 80) (h0 : 0 < x) (h1 : x + x ≤ 1)
    (rw1 : Go.Ev.Fn CX 28 [.int .i64 (a : Int), .int .i64 (b : Int), rv x, .int .i64 ((p + 300 : Nat) : Int)] (spanV A' B')) (hl : (lim A').length ≤ 100 ∧ (lim B').length ≤ 100) :
    Go.Ev.Fn CX 8 [.int .i64 (a : Int), .int .i64 (b : Int), v, .int .i64 (p : Int)] (.tup [ballR (toldLo A' p) (toldHi B' p), .bool true]) := incb_I_loP (.inr rfl) hv hL1 hL ha ha2 hb hb2 hp h0 h1 rw1 hl
set_option maxHeartbeats 1000000 in
theorem incb_I_hiP {A' B' : Nat} {pI : Int} (hpI : (pI ≤ 0 ∧ p = 0) ∨ pI = (p : Int)) (hv : RatA v x L) (hL1 : 1 ≤ L) (hL : L ≤ 200) (ha : 1 ≤ a) (ha2 : a ≤ 20) (hb : 1 ≤ b) (hb2 : b ≤ 20) (hp : p ≤ 80) (h0 : 1 < x + x) (h1 : x < 1)
    (rw1 : Go.Ev.Fn CX 28 [.int .i64 (b : Int), .int .i64 (a : Int), rv (1 - x), .int .i64 ((p + 300 : Nat) : Int)] (spanV A' B')) (hl : (lim A').length ≤ 100 ∧ (lim B').length ≤ 100) :
    Go.Ev.Fn CX 8 [.int .i64 (a : Int), .int .i64 (b : Int), v, .int .i64 pI] (.tup [ballR (1 - toldHi B' p) (1 - toldLo A' p), .bool true]) := by
  have n1 := rat_Norm hv (by omega)
  have zx := szR_of hv hL1
  have i1 := rat_Int 1 (by omega)
  have c1 := rat_Cmp (RatA_rv zx) (RatA_rv (int_szR (n := 1) (by omega))) hL1 (by omega) (by omega)
  have zr := rat_Zero (RatA_rv zx) hL1 (by omega)
  rw [decide_eq_false (by grind)] at zr
  have sm := rat_Same (RatA_rv zx) (RatA_rv (int_szR (n := 1) (by omega))) hL1 (by omega) (by omega)
  have ad := rat_Add (RatA_rv zx) (RatA_rv zx) hL1 hL1 (by omega)
  have c2 := rat_Cmp (RatA_rv (szR_add zx zx hL1)) (RatA_rv (int_szR (n := 1) (by omega))) (by omega) (by omega) (by omega)
  have b1 := ball_Of (RatA_rv (int_szR (n := 1) (by omega))) (by omega)
  have sb := rat_Sub (RatA_rv (int_szR (n := 1) (by omega))) (RatA_rv zx) (by omega) hL1 (by omega)
  have one1 : szR 1 1 := ⟨lim_len_lt (by decide +kernel), lim_len_lt (by decide +kernel)⟩
  rw [show ((1 : Int) : Rat) = 1 from rfl] at i1 c1 sm c2 b1 sb
  rw [decide_eq_false (show ¬ x = 1 by grind)] at sm
  have e1 : decide (cmpR x 1 > 0) = false := by rw [cmpR_gt]; exact decide_eq_false (by grind)
  have e2 : decide (cmpR (x + x) 1 ≤ 0) = false := by rw [cmpR_le]; exact decide_eq_false (by grind)
  have en : decide (x.num < 0) = false := by rw [neg_num]; exact decide_eq_false (by grind)
  have td := fix_Told (a := A') (b := B') (w := p + 300) (p := p + 2) (by omega) (by omega) (by omega) (by omega)
  obtain ⟨z1, z2⟩ := told_sz (p := p) hp hl.1 hl.2
  have bs := ball_Sub (a := 1) (b := 1) (L := 101) (szR_mono one1 (by omega)) (szR_mono one1 (by omega)) z1 z2 (by omega) (by omega)
  have x1 : (if (0 : Int) > pI then (0 : Int) else pI) = (p : Int) := by split <;> omega
  have x2 : (if (200 : Int) < (p : Int) then (200 : Int) else (p : Int)) = (p : Int) := if_neg (by omega)
  rw [show ((p + 300 : Nat) : Int) = (p : Int) + 300 from rfl] at rw1 td
  rw [show ((p + 2 : Nat) : Int) = (p : Int) + 2 from rfl] at td
  unfold toldLo toldHi at *
  generalize mkRat ((A' / 2 ^ (p + 300 - (p + 2)) : Nat) : Int) (2 ^ (p + 2)) = q1 at *
  generalize mkRat ((B' / 2 ^ (p + 300 - (p + 2)) + 1 : Nat) : Int) (2 ^ (p + 2)) = q2 at *
  generalize 1 - q2 = w1 at *
  generalize 1 - q1 = w2 at *
  rw [erv en] at n1 c1 zr sm ad sb
  obtain ⟨s, n, d, rfl, -⟩ := hv
  clear h0 h1
  generalize cmpR x 1 = z at *
  generalize x + x = xx at *
  generalize cmpR xx 1 = z2' at *
  generalize 1 - x = y at *
  refine Go.Ev.Fn.intro (fn := Tryz.f8) (body := (Tryz.f8).body.get!) (by kernel_rfl) (by kernel_rfl) (by kernel_rfl) (fun _ => rfl) (Nat.le_of_ble_eq_true (by kernel_rfl)) ?_; unfold Tryz.f8; simp only [Option.get!_some]
  repeat (first | (simp only [go_sem, Nat.reduceEqDiff, Nat.reduceAdd, Nat.reduceSub, Nat.reduceMul, Nat.reduceLeDiff, Nat.reduceLT, reduceIte, reduceCtorEq, Nat.succ_ne_zero, elemsC, Int.reduceToNat, Nat.reducePow, en, x1, x2, e1, e2]) | (simp (disch := (first | omega | (simp only [AL, List.length_map]; omega))) only [AR, AL, ifT, ifF, take_all, List.length_cons, List.length_nil, Int.reduceToNat, Int.reducePow, Nat.reducePow, en, x1, x2, e1, e2]) | (refine wk_intro (by kernel_rfl) ?_) | (refine vp_draw (id := 9) (l := []) (by kernel_rfl) ?_) | (refine vp_draw (id := 11) (l := []) (by kernel_rfl) ?_) | (refine vf_of (by first | exact n1 | exact i1 | exact c1 | exact zr | exact sm | exact ad | exact c2 | exact b1 | exact sb | exact rw1 | exact td | exact bs) ?_))
theorem incb_I_hi {A' B' : Nat} (hv : RatA v x L) (hL1 : 1 ≤ L) (hL : L ≤ 200) (ha : 1 ≤ a) (ha2 : a ≤ 20) (hb : 1 ≤ b) (hb2 : b ≤ 20) (hp : p ≤ 80) (h0 : 1 < x + x) (h1 : x < 1)
    (rw1 : Go.Ev.Fn CX 28 [.int .i64 (b : Int), .int .i64 (a : Int), rv (1 - x), .int .i64 ((p + 300 : Nat) : Int)] (spanV A' B')) (hl : (lim A').length ≤ 100 ∧ (lim B').length ≤ 100) :
    Go.Ev.Fn CX 8 [.int .i64 (a : Int), .int .i64 (b : Int), v, .int .i64 (p : Int)] (.tup [ballR (1 - toldHi B' p) (1 - toldLo A' p), .bool true]) := incb_I_hiP (.inr rfl) hv hL1 hL ha ha2 hb hb2 hp h0 h1 rw1 hl
end
end Go.Proofs.YtigiblhmhmgagaaGreat

/- vernierref2.Is; vernierref4: Of, Is, Width, Bit, Hold, Side, Good, Same, in the evaluator. -/
namespace Go.Proofs.YtigiblhmhmgagaaGreat
set_option linter.unusedSimpArgs false
set_option linter.unusedVariables false
set_option maxRecDepth 8000
open Go.Ev
theorem beq_true_self (b : Bool) : (b == b) = true := by cases b <;> rfl
theorem ref2_Is {q : Rat} {L : Nat} (hq : szR q L) (hL : L ≤ 1000000) : Go.Ev.Fn CX 82 [rv q] (.bool true) := by
  have n1 := ref2_Norm (RatA_rv hq) (by omega)
  have l1 := ref2_limbs (lim q.num.natAbs) (lim q.num.natAbs) (by have := hq.1; omega) (by have := hq.1; omega)
  have l2 := ref2_limbs (lim q.den) (lim q.den) (by have := hq.2; omega) (by have := hq.2; omega)
  rw [decide_eq_true rfl] at l1 l2
  have hb := beq_true_self (decide (q.num < 0))
  refine Go.Ev.Fn.intro (fn := Tryz.f82) (body := (Tryz.f82).body.get!) (by kernel_rfl) (by kernel_rfl) (by kernel_rfl) (fun _ => rfl) (Nat.le_of_ble_eq_true (by kernel_rfl)) ?_; unfold Tryz.f82; simp only [Option.get!_some]
  repeat (first | (simp only [go_sem, Nat.reduceEqDiff, Nat.reduceAdd, Nat.reduceSub, Nat.reduceMul, Nat.reduceLeDiff, Nat.reduceLT, reduceIte, reduceCtorEq, Nat.succ_ne_zero, elemsC, Int.reduceToNat, Nat.reducePow, hb]) | (simp (disch := (first | omega | (simp only [AL, List.length_map]; omega))) only [AR, AL, ifT, ifF, take_all, List.length_cons, List.length_nil, Int.reduceToNat, Int.reducePow, Nat.reducePow, hb]) | (refine wk_intro (by kernel_rfl) ?_) | (refine vf_of (by first | exact n1 | exact l1 | exact l2) ?_))
theorem ref4_Of {v : SV} {q : Rat} {L : Nat} (hv : RatA v q L) (hL : L ≤ 1000000) : Go.Ev.Fn CX 11 [v] (ballR q q) := by
  have n1 := ref2_Norm hv (by omega)
  obtain ⟨s, n, d, rfl, -⟩ := hv
  refine Go.Ev.Fn.intro (fn := Tryz.f11) (body := (Tryz.f11).body.get!) (by kernel_rfl) (by kernel_rfl) (by kernel_rfl) (fun _ => rfl) (Nat.le_of_ble_eq_true (by kernel_rfl)) ?_; unfold Tryz.f11; simp only [Option.get!_some]
  repeat (first | (simp only [go_sem, Nat.reduceEqDiff, Nat.reduceAdd, Nat.reduceSub, Nat.reduceMul, Nat.reduceLeDiff, Nat.reduceLT, reduceIte, reduceCtorEq, Nat.succ_ne_zero, elemsC, Int.reduceToNat, Nat.reducePow]) | (simp (disch := (first | omega | (simp only [AL, List.length_map]; omega))) only [AR, AL, ifT, ifF, take_all, List.length_cons, List.length_nil, Int.reduceToNat, Int.reducePow, Nat.reducePow]) | (refine wk_intro (by kernel_rfl) ?_) | (refine vp_draw (id := 1) (l := []) (by kernel_rfl) ?_) | (refine vf_of (by first | exact n1) ?_))
section
variable {a b c d : Rat} {L M : Nat}
theorem ref4_Is (ha : szR a L) (hb : szR b L) (hL1 : 1 ≤ L) (hL : L ≤ 100000) (h : a ≤ b) : Go.Ev.Fn CX 40 [ballR a b] (.bool true) := by
  have i1 := ref2_Is ha (by omega)
  have i2 := ref2_Is hb (by omega)
  have c1 := ref2_Cmp (RatA_rv ha) (RatA_rv hb) hL1 hL1 (by omega)
  have e1 : decide (cmpR a b ≤ 0) = true := by rw [cmpR_le]; exact decide_eq_true h
  generalize cmpR a b = z at *
  refine Go.Ev.Fn.intro (fn := Tryz.f40) (body := (Tryz.f40).body.get!) (by kernel_rfl) (by kernel_rfl) (by kernel_rfl) (fun _ => rfl) (Nat.le_of_ble_eq_true (by kernel_rfl)) ?_; unfold Tryz.f40; simp only [Option.get!_some]
  repeat (first | (simp only [go_sem, Nat.reduceEqDiff, Nat.reduceAdd, Nat.reduceSub, Nat.reduceMul, Nat.reduceLeDiff, Nat.reduceLT, reduceIte, reduceCtorEq, Nat.succ_ne_zero, elemsC, Int.reduceToNat, Nat.reducePow, e1]) | (simp (disch := (first | omega | (simp only [AL, List.length_map]; omega))) only [AR, AL, ifT, ifF, take_all, List.length_cons, List.length_nil, Int.reduceToNat, Int.reducePow, Nat.reducePow, e1]) | (refine wk_intro (by kernel_rfl) ?_) | (refine vf_of (by first | exact i1 | exact i2 | exact c1) ?_))
theorem ref4_Width (ha : szR a L) (hb : szR b L) (hL1 : 1 ≤ L) (hL : L ≤ 100000) : Go.Ev.Fn CX 41 [ballR a b] (rv (b - a)) := by
  have s := ref2_Sub (RatA_rv hb) (RatA_rv ha) hL1 hL1 (by omega)
  refine Go.Ev.Fn.intro (fn := Tryz.f41) (body := (Tryz.f41).body.get!) (by kernel_rfl) (by kernel_rfl) (by kernel_rfl) (fun _ => rfl) (Nat.le_of_ble_eq_true (by kernel_rfl)) ?_; unfold Tryz.f41; simp only [Option.get!_some]
  repeat (first | (simp only [go_sem, Nat.reduceEqDiff, Nat.reduceAdd, Nat.reduceSub, Nat.reduceMul, Nat.reduceLeDiff, Nat.reduceLT, reduceIte, reduceCtorEq, Nat.succ_ne_zero, elemsC, Int.reduceToNat, Nat.reducePow]) | (simp (disch := (first | omega | (simp only [AL, List.length_map]; omega))) only [AR, AL, ifT, ifF, take_all, List.length_cons, List.length_nil, Int.reduceToNat, Int.reducePow, Nat.reducePow]) | (refine wk_intro (by kernel_rfl) ?_) | (refine vf_of (by first | exact s) ?_))
theorem ref4_Bit {p : Nat} (hp : p ≤ 512) : Go.Ev.Fn CX 42 [.int .i64 (p : Int)] (rv (mkRat 1 (2 ^ p))) := by
  have s := ref1_shl (N := 1) (m := p) (by rw [lim_one]; simp) (by omega)
  rw [Nat.one_mul, lim_one] at s
  have l := lim_len_shl (a := 1) (n := p)
  have l1 := lim_len1
  rw [Nat.one_mul] at l
  have o := ref2_OfL (s := false) (n := 1) (d := 2 ^ p) (by omega) (by omega)
  rw [lim_one, show sgn false 1 = 1 from rfl] at o
  generalize mkRat 1 (2 ^ p) = r at *
  generalize 2 ^ p = P at *
  refine Go.Ev.Fn.intro (fn := Tryz.f42) (body := (Tryz.f42).body.get!) (by kernel_rfl) (by kernel_rfl) (by kernel_rfl) (fun _ => rfl) (Nat.le_of_ble_eq_true (by kernel_rfl)) ?_; unfold Tryz.f42; simp only [Option.get!_some]
  repeat (first | (simp only [go_sem, Nat.reduceEqDiff, Nat.reduceAdd, Nat.reduceSub, Nat.reduceMul, Nat.reduceLeDiff, Nat.reduceLT, reduceIte, reduceCtorEq, Nat.succ_ne_zero, elemsC, Int.reduceToNat, Nat.reducePow]) | (simp (disch := (first | omega | (simp only [AL, List.length_map]; omega))) only [AR, AL, ifT, ifF, take_all, List.length_cons, List.length_nil, Int.reduceToNat, Int.reducePow, Nat.reducePow]) | (refine wk_intro (by kernel_rfl) ?_) | (refine vf_of (by first | exact s | exact o) ?_))
theorem ref4_Hold {p : Int} {P : Nat} (h : (p ≤ 0 ∧ P = 0) ∨ p = (P : Int)) (hP : P ≤ 512) : Go.Ev.Fn CX 43 [.int .i64 p] (.int .i64 (P : Int)) := by
  have e1 : (if (0 : Int) > p then (0 : Int) else p) = (P : Int) := by split <;> omega
  have e2 : (if (512 : Int) < (P : Int) then (512 : Int) else (P : Int)) = (P : Int) := if_neg (by omega)
  refine Go.Ev.Fn.intro (fn := Tryz.f43) (body := (Tryz.f43).body.get!) (by kernel_rfl) (by kernel_rfl) (by kernel_rfl) (fun _ => rfl) (Nat.le_of_ble_eq_true (by kernel_rfl)) ?_; unfold Tryz.f43; simp only [Option.get!_some]
  repeat (first | (simp only [go_sem, Nat.reduceEqDiff, Nat.reduceAdd, Nat.reduceSub, Nat.reduceMul, Nat.reduceLeDiff, Nat.reduceLT, reduceIte, reduceCtorEq, Nat.succ_ne_zero, elemsC, Int.reduceToNat, Nat.reducePow, e1, e2]) | (simp (disch := (first | omega | (simp only [AL, List.length_map]; omega))) only [AR, AL, ifT, ifF, take_all, List.length_cons, List.length_nil, Int.reduceToNat, Int.reducePow, Nat.reducePow, e1, e2]) | (refine wk_intro (by kernel_rfl) ?_))
theorem ref4_Side0 (ha : szR a L) (hb : szR b L) (hc : szR c M) (hd : szR d M) (hL1 : 1 ≤ L) (hM1 : 1 ≤ M) (hL : L + M ≤ 100000) (h1 : c ≤ b) (h2 : a ≤ d) : Go.Ev.Fn CX 18 [ballR a b, ballR c d] (.int .i64 0) := by
  have c1 := ref2_Cmp (RatA_rv hb) (RatA_rv hc) hL1 hM1 (by omega)
  have c2 := ref2_Cmp (RatA_rv ha) (RatA_rv hd) hL1 hM1 (by omega)
  have e1 : decide (cmpR b c < 0) = false := by rw [cmpR_lt]; exact decide_eq_false (by grind)
  have e2 : decide (cmpR a d > 0) = false := by rw [cmpR_gt]; exact decide_eq_false (by grind)
  generalize cmpR b c = z1 at *
  generalize cmpR a d = z2 at *
  refine Go.Ev.Fn.intro (fn := Tryz.f18) (body := (Tryz.f18).body.get!) (by kernel_rfl) (by kernel_rfl) (by kernel_rfl) (fun _ => rfl) (Nat.le_of_ble_eq_true (by kernel_rfl)) ?_; unfold Tryz.f18; simp only [Option.get!_some]
  repeat (first | (simp only [go_sem, Nat.reduceEqDiff, Nat.reduceAdd, Nat.reduceSub, Nat.reduceMul, Nat.reduceLeDiff, Nat.reduceLT, reduceIte, reduceCtorEq, Nat.succ_ne_zero, elemsC, Int.reduceToNat, Nat.reducePow, e1, e2]) | (simp (disch := (first | omega | (simp only [AL, List.length_map]; omega))) only [AR, AL, ifT, ifF, take_all, List.length_cons, List.length_nil, Int.reduceToNat, Int.reducePow, Nat.reducePow, e1, e2]) | (refine wk_intro (by kernel_rfl) ?_) | (refine vf_of (by first | exact c1 | exact c2) ?_))
/-- A ball that is narrow, and meets another one, is good. -/
theorem ref4_Good {p : Int} {P : Nat} (hp : (p ≤ 0 ∧ P = 0) ∨ p = (P : Int)) (hP : P ≤ 512) (ha : szR a L) (hb : szR b L) (hc : szR c M) (hd : szR d M) (hL1 : 1 ≤ L) (hM1 : 1 ≤ M) (hL : L + M ≤ 100000) (h0 : a ≤ b) (h1 : c ≤ b) (h2 : a ≤ d) (hw : (b - a) * p2 P ≤ 1) :
    Go.Ev.Fn CX 13 [ballR a b, ballR c d, .int .i64 p] (.bool true) := by
  have i := ref4_Is ha hb hL1 (by omega) h0
  have w := ref4_Width ha hb hL1 (by omega)
  have hh := ref4_Hold hp hP
  have bt := ref4_Bit hP
  have l := lim_len_shl (a := 1) (n := P)
  have l1 := lim_len1
  rw [Nat.one_mul] at l
  have zb : szR (mkRat 1 (2 ^ P)) 20 := szR_mk (s := false) (n := 1) (d := 2 ^ P) (by omega) (by omega) (by omega)
  have zw := szR_sub hb ha hL1
  have c1 := ref2_Cmp (RatA_rv zw) (RatA_rv zb) (by omega) (by omega) (by omega)
  have e0 : b - a ≤ mkRat 1 (2 ^ P) := by
    refine le_by (p2_pos P) ?_
    have : mkRat 1 (2 ^ P) * p2 P = 1 := by
      rw [Rat.mkRat_eq_div]
      exact Rat.div_mul_cancel (by have : (0 : Rat) < p2 P := p2_pos P; grind)
    rw [this]; exact hw
  have e1 : decide (cmpR (b - a) (mkRat 1 (2 ^ P)) ≤ 0) = true := by rw [cmpR_le]; exact decide_eq_true e0
  have sd := ref4_Side0 ha hb hc hd hL1 hM1 (by omega) h1 h2
  generalize cmpR (b - a) (mkRat 1 (2 ^ P)) = z at *
  generalize mkRat 1 (2 ^ P) = r at *
  generalize b - a = x at *
  refine Go.Ev.Fn.intro (fn := Tryz.f13) (body := (Tryz.f13).body.get!) (by kernel_rfl) (by kernel_rfl) (by kernel_rfl) (fun _ => rfl) (Nat.le_of_ble_eq_true (by kernel_rfl)) ?_; unfold Tryz.f13; simp only [Option.get!_some]
  repeat (first | (simp only [go_sem, Nat.reduceEqDiff, Nat.reduceAdd, Nat.reduceSub, Nat.reduceMul, Nat.reduceLeDiff, Nat.reduceLT, reduceIte, reduceCtorEq, Nat.succ_ne_zero, elemsC, Int.reduceToNat, Nat.reducePow, e1]) | (simp (disch := (first | omega | (simp only [AL, List.length_map]; omega))) only [AR, AL, ifT, ifF, take_all, List.length_cons, List.length_nil, Int.reduceToNat, Int.reducePow, Nat.reducePow, e1]) | (refine wk_intro (by kernel_rfl) ?_) | (refine vf_of (by first | exact i | exact w | exact hh | exact bt | exact c1 | exact sd) ?_))
theorem ref4_Same (ha : szR a L) (hb : szR b L) (hL1 : 1 ≤ L) (hL : L ≤ 100000) : Go.Ev.Fn CX 10 [ballR a b, ballR a b] (.bool true) := by
  have s1 := ref2_Same (RatA_rv ha) (RatA_rv ha) hL1 hL1 (by omega)
  have s2 := ref2_Same (RatA_rv hb) (RatA_rv hb) hL1 hL1 (by omega)
  rw [decide_eq_true rfl] at s1 s2
  refine Go.Ev.Fn.intro (fn := Tryz.f10) (body := (Tryz.f10).body.get!) (by kernel_rfl) (by kernel_rfl) (by kernel_rfl) (fun _ => rfl) (Nat.le_of_ble_eq_true (by kernel_rfl)) ?_; unfold Tryz.f10; simp only [Option.get!_some]
  repeat (first | (simp only [go_sem, Nat.reduceEqDiff, Nat.reduceAdd, Nat.reduceSub, Nat.reduceMul, Nat.reduceLeDiff, Nat.reduceLT, reduceIte, reduceCtorEq, Nat.succ_ne_zero, elemsC, Int.reduceToNat, Nat.reducePow]) | (simp (disch := (first | omega | (simp only [AL, List.length_map]; omega))) only [AR, AL, ifT, ifF, take_all, List.length_cons, List.length_nil, Int.reduceToNat, Int.reducePow, Nat.reducePow]) | (refine wk_intro (by kernel_rfl) ?_) | (refine vf_of (by first | exact s1 | exact s2) ?_))
end
end Go.Proofs.YtigiblhmhmgagaaGreat

/- vernierref4.Add; vernierref12.I outside; vernierlaw12.big, in the evaluator. -/
namespace Go.Proofs.YtigiblhmhmgagaaGreat
set_option linter.unusedSimpArgs false
set_option linter.unusedVariables false
set_option maxRecDepth 8000
open Go.Ev
set_option linter.unusedVariables false
theorem ref4_AddB {a b c d : Rat} {L M : Nat} (ha : szR a L) (hb : szR b L) (hc : szR c M) (hd : szR d M) (hL1 : 1 ≤ L) (hM1 : 1 ≤ M) (hL : L + M ≤ 100000) : Go.Ev.Fn CX 16 [ballR a b, ballR c d] (ballR (a + c) (b + d)) := by
  have s1 := ref2_Add (RatA_rv ha) (RatA_rv hc) hL1 hM1 (by omega)
  have s2 := ref2_Add (RatA_rv hb) (RatA_rv hd) hL1 hM1 (by omega)
  generalize a + c = x at *
  generalize b + d = y at *
  refine Go.Ev.Fn.intro (fn := Tryz.f16) (body := (Tryz.f16).body.get!) (by kernel_rfl) (by kernel_rfl) (by kernel_rfl) (fun _ => rfl) (Nat.le_of_ble_eq_true (by kernel_rfl)) ?_; unfold Tryz.f16; simp only [Option.get!_some]
  repeat (first | (simp only [go_sem, Nat.reduceEqDiff, Nat.reduceAdd, Nat.reduceSub, Nat.reduceMul, Nat.reduceLeDiff, Nat.reduceLT, reduceIte, reduceCtorEq, Nat.succ_ne_zero, elemsC, Int.reduceToNat, Nat.reducePow]) | (simp (disch := (first | omega | (simp only [AL, List.length_map]; omega))) only [AR, AL, ifT, ifF, take_all, List.length_cons, List.length_nil, Int.reduceToNat, Int.reducePow, Nat.reducePow]) | (refine wk_intro (by kernel_rfl) ?_) | (refine vp_draw (id := 1) (l := []) (by kernel_rfl) ?_) | (refine vf_of (by first | exact s1 | exact s2) ?_))
theorem law12_big (s : Bool) (n d : List Nat) (hn : n.length ≤ 9223372036854775807) (hd : d.length ≤ 9223372036854775807) : Go.Ev.Fn CX 6 [.sl 1 [.bool s, natV n, natV d]] (.bool (decide (3 < n.length) || decide (3 < d.length))) := by
  refine Go.Ev.Fn.intro (fn := Tryz.f6) (body := (Tryz.f6).body.get!) (by kernel_rfl) (by kernel_rfl) (by kernel_rfl) (fun _ => rfl) (Nat.le_of_ble_eq_true (by kernel_rfl)) ?_; unfold Tryz.f6; simp only [Option.get!_some]
  repeat (first | (simp only [go_sem, Nat.reduceEqDiff, Nat.reduceAdd, Nat.reduceSub, Nat.reduceMul, Nat.reduceLeDiff, Nat.reduceLT, reduceIte, reduceCtorEq, Nat.succ_ne_zero, elemsC, Int.reduceToNat, Nat.reducePow]) | (simp (disch := (first | omega | (simp only [AL, List.length_map]; omega))) only [AR, AL, ifT, ifF, take_all, List.length_cons, List.length_nil, Int.reduceToNat, Int.reducePow, Nat.reducePow]) | (refine wk_intro (by kernel_rfl) ?_))
  refine vp_loop_inv (fun st => st.tmp 0 = .sv (.sl 1 [.bool s, natV n, natV d]) ∧ ((st.tmp 3 = .sv (.int .i64 0)) ∨ (st.tmp 3 = .sv (.int .i64 1) ∧ n.length ≤ 3 ∧ d.length ≤ 3)))
    (fun st => match st.tmp 3 with | .sv (.int _ i) => 1 - i.toNat | _ => 0) ⟨rfl, .inl rfl⟩ ?_
  rintro st ⟨i0, i3 | ⟨i3, h1, h2⟩⟩
  · by_cases h1 : 3 < n.length
    · rw [decide_eq_true h1, Bool.true_or]
      repeat (first | (simp only [go_sem, Nat.reduceEqDiff, Nat.reduceAdd, Nat.reduceSub, Nat.reduceMul, Nat.reduceLeDiff, Nat.reduceLT, reduceIte, reduceCtorEq, Nat.succ_ne_zero, elemsC, Int.reduceToNat, Nat.reducePow, i0, i3]) | (simp (disch := (first | omega | (simp only [AL, List.length_map]; omega))) only [AR, AL, ifT, ifF, take_all, List.length_cons, List.length_nil, Int.reduceToNat, Int.reducePow, Nat.reducePow, i0, i3]) | (refine wk_intro (by kernel_rfl) ?_))
    · rw [decide_eq_false h1, Bool.false_or]
      by_cases h2 : 3 < d.length
      · rw [decide_eq_true h2]
        repeat (first | (simp only [go_sem, Nat.reduceEqDiff, Nat.reduceAdd, Nat.reduceSub, Nat.reduceMul, Nat.reduceLeDiff, Nat.reduceLT, reduceIte, reduceCtorEq, Nat.succ_ne_zero, elemsC, Int.reduceToNat, Nat.reducePow, i0, i3]) | (simp (disch := (first | omega | (simp only [AL, List.length_map]; omega))) only [AR, AL, ifT, ifF, take_all, List.length_cons, List.length_nil, Int.reduceToNat, Int.reducePow, Nat.reducePow, i0, i3]) | (refine wk_intro (by kernel_rfl) ?_))
      · rw [decide_eq_false h2]
        repeat (first | (simp only [go_sem, Nat.reduceEqDiff, Nat.reduceAdd, Nat.reduceSub, Nat.reduceMul, Nat.reduceLeDiff, Nat.reduceLT, reduceIte, reduceCtorEq, Nat.succ_ne_zero, elemsC, Int.reduceToNat, Nat.reducePow, i0, i3]) | (simp (disch := (first | omega | (simp only [AL, List.length_map]; omega))) only [AR, AL, ifT, ifF, take_all, List.length_cons, List.length_nil, Int.reduceToNat, Int.reducePow, Nat.reducePow, i0, i3]) | (refine wk_intro (by kernel_rfl) ?_))
        first | exact ⟨.inr ⟨rfl, by omega, by omega⟩, by decide⟩ | exact ⟨by omega, by omega⟩
  · rw [decide_eq_false (by omega), decide_eq_false (by omega), Bool.or_false]
    repeat (first | (simp only [go_sem, Nat.reduceEqDiff, Nat.reduceAdd, Nat.reduceSub, Nat.reduceMul, Nat.reduceLeDiff, Nat.reduceLT, reduceIte, reduceCtorEq, Nat.succ_ne_zero, elemsC, Int.reduceToNat, Nat.reducePow, i0, i3]) | (simp (disch := (first | omega | (simp only [AL, List.length_map]; omega))) only [AR, AL, ifT, ifF, take_all, List.length_cons, List.length_nil, Int.reduceToNat, Int.reducePow, Nat.reducePow, i0, i3]) | (refine wk_intro (by kernel_rfl) ?_))
theorem ref12_I_bad {v : SV} {x : Rat} {a b pI : Int} {L : Nat} (hv : RatA v x L) (hL1 : 1 ≤ L) (hL : L ≤ 10) (ha : -9223372036854775808 ≤ a ∧ a ≤ 256) (hb : -9223372036854775808 ≤ b ∧ b ≤ 256) (h : a < 1 ∨ b < 1 ∨ x < 0 ∨ 1 < x) : Go.Ev.Fn CX 9 [.int .i64 a, .int .i64 b, v, .int .i64 pI] (.tup [ballR 0 0, .bool false]) := by
  have zx := szR_of hv hL1
  have i1 := ref2_Int 1 (by omega)
  have i0 := ref2_Int 0 (by omega)
  have z0 : szR ((0 : Int) : Rat) 2 := int_szR (by omega)
  have z1 : szR ((1 : Int) : Rat) 2 := int_szR (by omega)
  have o := ref4_Of (RatA_rv z0) (by omega)
  have c0 := ref2_Cmp hv (RatA_rv z0) hL1 (by omega) (by omega)
  have c1 := ref2_Cmp hv (RatA_rv z1) hL1 (by omega) (by omega)
  rw [show ((0 : Int) : Rat) = 0 from rfl] at i0 o c0
  rw [show ((1 : Int) : Rat) = 1 from rfl] at i1 c1
  have e0 : decide (cmpR x 0 < 0) = decide (x < 0) := cmpR_lt
  have e1 : decide (cmpR x 1 > 0) = decide (1 < x) := cmpR_gt
  obtain ⟨s, n, d, rfl, -⟩ := hv
  generalize cmpR x 0 = y0 at *
  generalize cmpR x 1 = y1 at *
  by_cases g1 : a < 1
  · clear h e0 e1
    refine Go.Ev.Fn.intro (fn := Tryz.f9) (body := (Tryz.f9).body.get!) (by kernel_rfl) (by kernel_rfl) (by kernel_rfl) (fun _ => rfl) (Nat.le_of_ble_eq_true (by kernel_rfl)) ?_; unfold Tryz.f9; simp only [Option.get!_some]
    repeat (first | (simp only [go_sem, Nat.reduceEqDiff, Nat.reduceAdd, Nat.reduceSub, Nat.reduceMul, Nat.reduceLeDiff, Nat.reduceLT, reduceIte, reduceCtorEq, Nat.succ_ne_zero, elemsC, Int.reduceToNat, Nat.reducePow]) | (simp (disch := (first | omega | (simp only [AL, List.length_map]; omega))) only [AR, AL, ifT, ifF, take_all, List.length_cons, List.length_nil, Int.reduceToNat, Int.reducePow, Nat.reducePow]) | (refine wk_intro (by kernel_rfl) ?_) | (refine vp_draw (id := 3) (l := []) (by kernel_rfl) ?_) | (refine vp_draw (id := 10) (l := [59, 60]) (by kernel_rfl) ?_) | (refine vp_draw (id := 13) (l := []) (by kernel_rfl) ?_) | (refine vf_of (by first | exact i1 | exact i0 | exact o) ?_))
  by_cases g2 : b < 1
  · clear h e0 e1
    refine Go.Ev.Fn.intro (fn := Tryz.f9) (body := (Tryz.f9).body.get!) (by kernel_rfl) (by kernel_rfl) (by kernel_rfl) (fun _ => rfl) (Nat.le_of_ble_eq_true (by kernel_rfl)) ?_; unfold Tryz.f9; simp only [Option.get!_some]
    repeat (first | (simp only [go_sem, Nat.reduceEqDiff, Nat.reduceAdd, Nat.reduceSub, Nat.reduceMul, Nat.reduceLeDiff, Nat.reduceLT, reduceIte, reduceCtorEq, Nat.succ_ne_zero, elemsC, Int.reduceToNat, Nat.reducePow]) | (simp (disch := (first | omega | (simp only [AL, List.length_map]; omega))) only [AR, AL, ifT, ifF, take_all, List.length_cons, List.length_nil, Int.reduceToNat, Int.reducePow, Nat.reducePow]) | (refine wk_intro (by kernel_rfl) ?_) | (refine vp_draw (id := 3) (l := []) (by kernel_rfl) ?_) | (refine vp_draw (id := 10) (l := [59, 60]) (by kernel_rfl) ?_) | (refine vp_draw (id := 13) (l := []) (by kernel_rfl) ?_) | (refine vf_of (by first | exact i1 | exact i0 | exact o) ?_))
  by_cases hx : x < 0
  · rw [decide_eq_true hx] at e0
    clear h e1
    refine Go.Ev.Fn.intro (fn := Tryz.f9) (body := (Tryz.f9).body.get!) (by kernel_rfl) (by kernel_rfl) (by kernel_rfl) (fun _ => rfl) (Nat.le_of_ble_eq_true (by kernel_rfl)) ?_; unfold Tryz.f9; simp only [Option.get!_some]
    repeat (first | (simp only [go_sem, Nat.reduceEqDiff, Nat.reduceAdd, Nat.reduceSub, Nat.reduceMul, Nat.reduceLeDiff, Nat.reduceLT, reduceIte, reduceCtorEq, Nat.succ_ne_zero, elemsC, Int.reduceToNat, Nat.reducePow, e0]) | (simp (disch := (first | omega | (simp only [AL, List.length_map]; omega))) only [AR, AL, ifT, ifF, take_all, List.length_cons, List.length_nil, Int.reduceToNat, Int.reducePow, Nat.reducePow, e0]) | (refine wk_intro (by kernel_rfl) ?_) | (refine vp_draw (id := 3) (l := []) (by kernel_rfl) ?_) | (refine vp_draw (id := 10) (l := [59, 60]) (by kernel_rfl) ?_) | (refine vp_draw (id := 13) (l := []) (by kernel_rfl) ?_) | (refine vf_of (by first | exact i1 | exact i0 | exact o | exact c0) ?_))
  · rw [decide_eq_false hx] at e0
    rw [decide_eq_true ((h.resolve_left g1).resolve_left g2 |>.resolve_left hx)] at e1
    clear h
    refine Go.Ev.Fn.intro (fn := Tryz.f9) (body := (Tryz.f9).body.get!) (by kernel_rfl) (by kernel_rfl) (by kernel_rfl) (fun _ => rfl) (Nat.le_of_ble_eq_true (by kernel_rfl)) ?_; unfold Tryz.f9; simp only [Option.get!_some]
    repeat (first | (simp only [go_sem, Nat.reduceEqDiff, Nat.reduceAdd, Nat.reduceSub, Nat.reduceMul, Nat.reduceLeDiff, Nat.reduceLT, reduceIte, reduceCtorEq, Nat.succ_ne_zero, elemsC, Int.reduceToNat, Nat.reducePow, e0, e1]) | (simp (disch := (first | omega | (simp only [AL, List.length_map]; omega))) only [AR, AL, ifT, ifF, take_all, List.length_cons, List.length_nil, Int.reduceToNat, Int.reducePow, Nat.reducePow, e0, e1]) | (refine wk_intro (by kernel_rfl) ?_) | (refine vp_draw (id := 3) (l := []) (by kernel_rfl) ?_) | (refine vp_draw (id := 10) (l := [59, 60]) (by kernel_rfl) ?_) | (refine vp_draw (id := 13) (l := []) (by kernel_rfl) ?_) | (refine vf_of (by first | exact i1 | exact i0 | exact o | exact c0 | exact c1) ?_))
end Go.Proofs.YtigiblhmhmgagaaGreat

/- vernierlaw12.IncbSides, in the evaluator: all but the share at a half. -/
namespace Go.Proofs.YtigiblhmhmgagaaGreat
set_option linter.unusedSimpArgs false
set_option linter.unusedVariables false
set_option maxRecDepth 8000
open Go.Ev
set_option linter.unusedVariables false
section
variable {x : Rat} {a b p : Int} {s : Bool} {n d : List Nat}
theorem sides_out (hn : n.length ≤ 9223372036854775807) (hd : d.length ≤ 9223372036854775807) (ha : -9223372036854775808 ≤ a ∧ a < 9223372036854775808) (hb : -9223372036854775808 ≤ b ∧ b < 9223372036854775808) (hp : -9223372036854775808 ≤ p ∧ p < 9223372036854775808)
    (h : 3 < n.length ∨ 3 < d.length ∨ p < 0 ∨ 60 < p ∨ 20 < a ∨ 20 < b) : Go.Ev.Fn CX 4 [.int .i64 a, .int .i64 b, ratV s n d, .int .i64 p] (.bool true) := by
  have bg := law12_big s n d hn hd
  by_cases c1 : p < 0
  · generalize (decide (3 < n.length) || decide (3 < d.length)) = c at *
    cases c
    · refine Go.Ev.Fn.intro (fn := Tryz.f4) (body := (Tryz.f4).body.get!) (by kernel_rfl) (by kernel_rfl) (by kernel_rfl) (fun _ => rfl) (Nat.le_of_ble_eq_true (by kernel_rfl)) ?_; unfold Tryz.f4; simp only [Option.get!_some]
      repeat (first | (simp only [go_sem, Nat.reduceEqDiff, Nat.reduceAdd, Nat.reduceSub, Nat.reduceMul, Nat.reduceLeDiff, Nat.reduceLT, reduceIte, reduceCtorEq, Nat.succ_ne_zero, elemsC, Int.reduceToNat, Nat.reducePow]) | (simp (disch := (first | omega | (simp only [AL, List.length_map]; omega))) only [AR, AL, ifT, ifF, take_all, List.length_cons, List.length_nil, Int.reduceToNat, Int.reducePow, Nat.reducePow]) | (refine wk_intro (by kernel_rfl) ?_) | (refine vp_draw (id := 4) (l := []) (by kernel_rfl) ?_) | (refine vf_of (by first | exact bg) ?_))
    · refine Go.Ev.Fn.intro (fn := Tryz.f4) (body := (Tryz.f4).body.get!) (by kernel_rfl) (by kernel_rfl) (by kernel_rfl) (fun _ => rfl) (Nat.le_of_ble_eq_true (by kernel_rfl)) ?_; unfold Tryz.f4; simp only [Option.get!_some]
      repeat (first | (simp only [go_sem, Nat.reduceEqDiff, Nat.reduceAdd, Nat.reduceSub, Nat.reduceMul, Nat.reduceLeDiff, Nat.reduceLT, reduceIte, reduceCtorEq, Nat.succ_ne_zero, elemsC, Int.reduceToNat, Nat.reducePow]) | (simp (disch := (first | omega | (simp only [AL, List.length_map]; omega))) only [AR, AL, ifT, ifF, take_all, List.length_cons, List.length_nil, Int.reduceToNat, Int.reducePow, Nat.reducePow]) | (refine wk_intro (by kernel_rfl) ?_) | (refine vp_draw (id := 4) (l := []) (by kernel_rfl) ?_) | (refine vf_of (by first | exact bg) ?_))
  by_cases c2 : 60 < p
  · generalize (decide (3 < n.length) || decide (3 < d.length)) = c at *
    cases c
    · refine Go.Ev.Fn.intro (fn := Tryz.f4) (body := (Tryz.f4).body.get!) (by kernel_rfl) (by kernel_rfl) (by kernel_rfl) (fun _ => rfl) (Nat.le_of_ble_eq_true (by kernel_rfl)) ?_; unfold Tryz.f4; simp only [Option.get!_some]
      repeat (first | (simp only [go_sem, Nat.reduceEqDiff, Nat.reduceAdd, Nat.reduceSub, Nat.reduceMul, Nat.reduceLeDiff, Nat.reduceLT, reduceIte, reduceCtorEq, Nat.succ_ne_zero, elemsC, Int.reduceToNat, Nat.reducePow]) | (simp (disch := (first | omega | (simp only [AL, List.length_map]; omega))) only [AR, AL, ifT, ifF, take_all, List.length_cons, List.length_nil, Int.reduceToNat, Int.reducePow, Nat.reducePow]) | (refine wk_intro (by kernel_rfl) ?_) | (refine vp_draw (id := 4) (l := []) (by kernel_rfl) ?_) | (refine vf_of (by first | exact bg) ?_))
    · refine Go.Ev.Fn.intro (fn := Tryz.f4) (body := (Tryz.f4).body.get!) (by kernel_rfl) (by kernel_rfl) (by kernel_rfl) (fun _ => rfl) (Nat.le_of_ble_eq_true (by kernel_rfl)) ?_; unfold Tryz.f4; simp only [Option.get!_some]
      repeat (first | (simp only [go_sem, Nat.reduceEqDiff, Nat.reduceAdd, Nat.reduceSub, Nat.reduceMul, Nat.reduceLeDiff, Nat.reduceLT, reduceIte, reduceCtorEq, Nat.succ_ne_zero, elemsC, Int.reduceToNat, Nat.reducePow]) | (simp (disch := (first | omega | (simp only [AL, List.length_map]; omega))) only [AR, AL, ifT, ifF, take_all, List.length_cons, List.length_nil, Int.reduceToNat, Int.reducePow, Nat.reducePow]) | (refine wk_intro (by kernel_rfl) ?_) | (refine vp_draw (id := 4) (l := []) (by kernel_rfl) ?_) | (refine vf_of (by first | exact bg) ?_))
  by_cases c3 : 20 < a
  · generalize (decide (3 < n.length) || decide (3 < d.length)) = c at *
    cases c
    · refine Go.Ev.Fn.intro (fn := Tryz.f4) (body := (Tryz.f4).body.get!) (by kernel_rfl) (by kernel_rfl) (by kernel_rfl) (fun _ => rfl) (Nat.le_of_ble_eq_true (by kernel_rfl)) ?_; unfold Tryz.f4; simp only [Option.get!_some]
      repeat (first | (simp only [go_sem, Nat.reduceEqDiff, Nat.reduceAdd, Nat.reduceSub, Nat.reduceMul, Nat.reduceLeDiff, Nat.reduceLT, reduceIte, reduceCtorEq, Nat.succ_ne_zero, elemsC, Int.reduceToNat, Nat.reducePow]) | (simp (disch := (first | omega | (simp only [AL, List.length_map]; omega))) only [AR, AL, ifT, ifF, take_all, List.length_cons, List.length_nil, Int.reduceToNat, Int.reducePow, Nat.reducePow]) | (refine wk_intro (by kernel_rfl) ?_) | (refine vp_draw (id := 4) (l := []) (by kernel_rfl) ?_) | (refine vf_of (by first | exact bg) ?_))
    · refine Go.Ev.Fn.intro (fn := Tryz.f4) (body := (Tryz.f4).body.get!) (by kernel_rfl) (by kernel_rfl) (by kernel_rfl) (fun _ => rfl) (Nat.le_of_ble_eq_true (by kernel_rfl)) ?_; unfold Tryz.f4; simp only [Option.get!_some]
      repeat (first | (simp only [go_sem, Nat.reduceEqDiff, Nat.reduceAdd, Nat.reduceSub, Nat.reduceMul, Nat.reduceLeDiff, Nat.reduceLT, reduceIte, reduceCtorEq, Nat.succ_ne_zero, elemsC, Int.reduceToNat, Nat.reducePow]) | (simp (disch := (first | omega | (simp only [AL, List.length_map]; omega))) only [AR, AL, ifT, ifF, take_all, List.length_cons, List.length_nil, Int.reduceToNat, Int.reducePow, Nat.reducePow]) | (refine wk_intro (by kernel_rfl) ?_) | (refine vp_draw (id := 4) (l := []) (by kernel_rfl) ?_) | (refine vf_of (by first | exact bg) ?_))
  by_cases c4 : 20 < b
  · generalize (decide (3 < n.length) || decide (3 < d.length)) = c at *
    cases c
    · refine Go.Ev.Fn.intro (fn := Tryz.f4) (body := (Tryz.f4).body.get!) (by kernel_rfl) (by kernel_rfl) (by kernel_rfl) (fun _ => rfl) (Nat.le_of_ble_eq_true (by kernel_rfl)) ?_; unfold Tryz.f4; simp only [Option.get!_some]
      repeat (first | (simp only [go_sem, Nat.reduceEqDiff, Nat.reduceAdd, Nat.reduceSub, Nat.reduceMul, Nat.reduceLeDiff, Nat.reduceLT, reduceIte, reduceCtorEq, Nat.succ_ne_zero, elemsC, Int.reduceToNat, Nat.reducePow]) | (simp (disch := (first | omega | (simp only [AL, List.length_map]; omega))) only [AR, AL, ifT, ifF, take_all, List.length_cons, List.length_nil, Int.reduceToNat, Int.reducePow, Nat.reducePow]) | (refine wk_intro (by kernel_rfl) ?_) | (refine vp_draw (id := 4) (l := []) (by kernel_rfl) ?_) | (refine vf_of (by first | exact bg) ?_))
    · refine Go.Ev.Fn.intro (fn := Tryz.f4) (body := (Tryz.f4).body.get!) (by kernel_rfl) (by kernel_rfl) (by kernel_rfl) (fun _ => rfl) (Nat.le_of_ble_eq_true (by kernel_rfl)) ?_; unfold Tryz.f4; simp only [Option.get!_some]
      repeat (first | (simp only [go_sem, Nat.reduceEqDiff, Nat.reduceAdd, Nat.reduceSub, Nat.reduceMul, Nat.reduceLeDiff, Nat.reduceLT, reduceIte, reduceCtorEq, Nat.succ_ne_zero, elemsC, Int.reduceToNat, Nat.reducePow]) | (simp (disch := (first | omega | (simp only [AL, List.length_map]; omega))) only [AR, AL, ifT, ifF, take_all, List.length_cons, List.length_nil, Int.reduceToNat, Int.reducePow, Nat.reducePow]) | (refine wk_intro (by kernel_rfl) ?_) | (refine vp_draw (id := 4) (l := []) (by kernel_rfl) ?_) | (refine vf_of (by first | exact bg) ?_))
  · rw [show (decide (3 < n.length) || decide (3 < d.length)) = true by rcases h with h | h | h; (rw [decide_eq_true h, Bool.true_or]); (rw [decide_eq_true h, Bool.or_true]); omega] at bg
    refine Go.Ev.Fn.intro (fn := Tryz.f4) (body := (Tryz.f4).body.get!) (by kernel_rfl) (by kernel_rfl) (by kernel_rfl) (fun _ => rfl) (Nat.le_of_ble_eq_true (by kernel_rfl)) ?_; unfold Tryz.f4; simp only [Option.get!_some]
    repeat (first | (simp only [go_sem, Nat.reduceEqDiff, Nat.reduceAdd, Nat.reduceSub, Nat.reduceMul, Nat.reduceLeDiff, Nat.reduceLT, reduceIte, reduceCtorEq, Nat.succ_ne_zero, elemsC, Int.reduceToNat, Nat.reducePow]) | (simp (disch := (first | omega | (simp only [AL, List.length_map]; omega))) only [AR, AL, ifT, ifF, take_all, List.length_cons, List.length_nil, Int.reduceToNat, Int.reducePow, Nat.reducePow]) | (refine wk_intro (by kernel_rfl) ?_) | (refine vp_draw (id := 4) (l := []) (by kernel_rfl) ?_) | (refine vf_of (by first | exact bg) ?_))
/-- Outside both are not told. -/
theorem sides_bad (hk : Go.Ev.Fn CX 7 [] (.bool true)) (hv : RatA (ratV s n d) x 3) (h1 : n.length ≤ 3) (h2 : d.length ≤ 3) (ha : -9223372036854775808 ≤ a ∧ a ≤ 20) (hb : -9223372036854775808 ≤ b ∧ b ≤ 20) (hp : 0 ≤ p ∧ p ≤ 60) (h : a < 1 ∨ b < 1 ∨ x < 0 ∨ 1 < x) :
    Go.Ev.Fn CX 4 [.int .i64 a, .int .i64 b, ratV s n d, .int .i64 p] (.bool true) := by
  have bg := law12_big s n d (by omega) (by omega)
  rw [decide_eq_false (by omega), decide_eq_false (by omega), Bool.or_false] at bg
  have zx := szR_of hv (by omega)
  have one1 : szR 1 1 := ⟨lim_len_lt (by decide +kernel), lim_len_lt (by decide +kernel)⟩
  have i1 := ref2_Int 1 (by omega)
  have sb := ref2_Sub (RatA_rv (int_szR (n := 1) (by omega))) hv (by omega) (by omega) (by omega)
  rw [show ((1 : Int) : Rat) = 1 from rfl] at i1 sb
  have zy := szR_sub one1 zx (by omega)
  have f1 := incb_I_bad (a := a) (b := b) (pI := p) hv (by omega) (by omega) (by omega) (by omega) h
  have f2 := incb_I_bad (a := b) (b := a) (pI := p) (RatA_rv zy) (by omega) (by omega) (by omega) (by omega) (by
    rcases h with h | h | h | h
    · exact .inr (.inl h)
    · exact .inl h
    · exact .inr (.inr (.inr (by grind)))
    · exact .inr (.inr (.inl (by grind))))
  have f3 := ref12_I_bad (a := a) (b := b) (pI := 0) hv (by omega) (by omega) (by omega) (by omega) h
  clear h
  generalize 1 - x = y at *
  refine Go.Ev.Fn.intro (fn := Tryz.f4) (body := (Tryz.f4).body.get!) (by kernel_rfl) (by kernel_rfl) (by kernel_rfl) (fun _ => rfl) (Nat.le_of_ble_eq_true (by kernel_rfl)) ?_; unfold Tryz.f4; simp only [Option.get!_some]
  repeat (first | (simp only [go_sem, Nat.reduceEqDiff, Nat.reduceAdd, Nat.reduceSub, Nat.reduceMul, Nat.reduceLeDiff, Nat.reduceLT, reduceIte, reduceCtorEq, Nat.succ_ne_zero, elemsC, Int.reduceToNat, Nat.reducePow, Bool.not_false]) | (simp (disch := (first | omega | (simp only [AL, List.length_map]; omega))) only [AR, AL, ifT, ifF, take_all, List.length_cons, List.length_nil, Int.reduceToNat, Int.reducePow, Nat.reducePow, Bool.not_false]) | (refine wk_intro (by kernel_rfl) ?_) | (refine vp_draw (id := 4) (l := []) (by kernel_rfl) ?_) | (refine vf_of (by first | exact bg | exact f1 | exact i1 | exact sb | exact f2 | exact f3 | exact hk) ?_))
/-- Both balls' sum has 1. -/
theorem sides_in {l1 h1 l2 h2 : Rat} (hk : Go.Ev.Fn CX 7 [] (.bool true)) (hv : RatA (ratV s n d) x 3) (hn : n.length ≤ 3) (hd : d.length ≤ 3) (ha : 1 ≤ a ∧ a ≤ 20) (hb : 1 ≤ b ∧ b ≤ 20) (hp : 0 ≤ p ∧ p ≤ 60)
    (f1 : Go.Ev.Fn CX 8 [.int .i64 a, .int .i64 b, ratV s n d, .int .i64 p] (.tup [ballR l1 h1, .bool true])) (f2 : Go.Ev.Fn CX 8 [.int .i64 b, .int .i64 a, rv (1 - x), .int .i64 p] (.tup [ballR l2 h2, .bool true]))
    (z1 : szR l1 200) (z2 : szR h1 200) (z3 : szR l2 200) (z4 : szR h2 200) (g1 : l1 + l2 ≤ 1) (g2 : 1 ≤ h1 + h2) :
    Go.Ev.Fn CX 4 [.int .i64 a, .int .i64 b, ratV s n d, .int .i64 p] (.bool true) := by
  have bg := law12_big s n d (by omega) (by omega)
  rw [decide_eq_false (by omega), decide_eq_false (by omega), Bool.or_false] at bg
  have i1 := ref2_Int 1 (by omega)
  have sb := ref2_Sub (RatA_rv (int_szR (n := 1) (by omega))) hv (by omega) (by omega) (by omega)
  have ad := ref4_AddB z1 z2 z3 z4 (by omega) (by omega) (by omega)
  have hs := ref4_Has (a := l1 + l2) (b := h1 + h2) (q := ((1 : Int) : Rat)) (L := 401) (M := 2) (szR_add z1 z3 (by omega)) (szR_add z2 z4 (by omega)) (RatA_rv (int_szR (n := 1) (by omega))) (by omega) (by omega) (by omega) g1 g2
  rw [show ((1 : Int) : Rat) = 1 from rfl] at i1 sb hs
  clear g1 g2
  generalize 1 - x = y at *
  generalize l1 + l2 = u1 at *
  generalize h1 + h2 = u2 at *
  refine Go.Ev.Fn.intro (fn := Tryz.f4) (body := (Tryz.f4).body.get!) (by kernel_rfl) (by kernel_rfl) (by kernel_rfl) (fun _ => rfl) (Nat.le_of_ble_eq_true (by kernel_rfl)) ?_; unfold Tryz.f4; simp only [Option.get!_some]
  repeat (first | (simp only [go_sem, Nat.reduceEqDiff, Nat.reduceAdd, Nat.reduceSub, Nat.reduceMul, Nat.reduceLeDiff, Nat.reduceLT, reduceIte, reduceCtorEq, Nat.succ_ne_zero, elemsC, Int.reduceToNat, Nat.reducePow, Bool.not_true]) | (simp (disch := (first | omega | (simp only [AL, List.length_map]; omega))) only [AR, AL, ifT, ifF, take_all, List.length_cons, List.length_nil, Int.reduceToNat, Int.reducePow, Nat.reducePow, Bool.not_true]) | (refine wk_intro (by kernel_rfl) ?_) | (refine vp_draw (id := 4) (l := []) (by kernel_rfl) ?_) | (refine vf_of (by first | exact bg | exact f1 | exact i1 | exact sb | exact f2 | exact ad | exact hs | exact hk) ?_))
end
end Go.Proofs.YtigiblhmhmgagaaGreat

/- vernierlaw12.IncbSides at all numbers but a half, in the evaluator. -/
namespace Go.Proofs.YtigiblhmhmgagaaGreat
open Go.Ev
set_option linter.unusedVariables false
theorem told_le {A B p : Nat} (h : A ≤ B) : toldLo A p ≤ toldHi B p := by
  unfold toldLo toldHi
  have P := p2_pos (p + 2)
  have h1 := Nat.div_le_div_right (c := 2 ^ (p + 300 - (p + 2))) h
  have e1 := mk_p2n (A / 2 ^ (p + 300 - (p + 2))) (p + 2)
  have e2 := mk_p2n (B / 2 ^ (p + 300 - (p + 2)) + 1) (p + 2)
  refine le_by P ?_
  rw [e1, e2]
  exact nat_le_rat (Nat.le_succ_of_le h1)
section
variable {x : Rat} {a b p : Nat} {s : Bool} {n d : List Nat}
/-- A row of any halves is told. -/
theorem row_told {L : Nat} (hz : szR x L) (hL1 : 1 ≤ L) (hL : L ≤ 200) (ha : 1 ≤ a) (ha2 : a ≤ 20) (hb : 1 ≤ b) (hb2 : b ≤ 20) (hp : p ≤ 60) (h0 : 0 ≤ x) (h1 : x + x ≤ 1) :
    ∃ A B : Nat, Go.Ev.Fn CX 28 [.int .i64 (a : Int), .int .i64 (b : Int), rv x, .int .i64 ((p + 300 : Nat) : Int)] (spanV A B) ∧ A ≤ B ∧ (lim A).length ≤ 100 ∧ (lim B).length ≤ 100 := by
  obtain ⟨F1, F2, _, _, _, _, fi, g1, g2, g3, -⟩ := incb_fst (w := p + 300) ha ha2 hb hb2 hz hL1 hL h0 (by grind) (by omega) (by omega)
  obtain ⟨A, B, K, hg⟩ := rowh_ends ha hb2 h0 h1 (by omega) (by omega) g1 g2 g3
  obtain ⟨k1, k2, k3⟩ := rowh_bd ha hb2 h0 h1 (by omega) g1 g2 g3 hg
  have f := incb_rowh ha ha2 hb hb2 hz (by omega) h0 h1 (by omega) (by omega) fi g1 g2 g3 hg
  have lB := lim_len_p2 k3 (by omega)
  exact ⟨A, B, f, k1, Nat.le_trans (lim_len_mono k1) (by omega), by omega⟩
theorem one_szR : szR 1 1 := ⟨lim_len_lt (by decide +kernel), lim_len_lt (by decide +kernel)⟩
theorem sides_low (hk : Go.Ev.Fn CX 7 [] (.bool true)) (hv : RatA (ratV s n d) x 3) (hn : n.length ≤ 3) (hd : d.length ≤ 3) (ha : 1 ≤ a) (ha2 : a ≤ 20) (hb : 1 ≤ b) (hb2 : b ≤ 20) (hp : p ≤ 60) (h0 : 0 < x) (h1 : x + x < 1) :
    Go.Ev.Fn CX 4 [.int .i64 (a : Int), .int .i64 (b : Int), ratV s n d, .int .i64 (p : Int)] (.bool true) := by
  have zx := szR_of hv (by omega)
  have zy := szR_sub one_szR zx (by omega)
  obtain ⟨A, B, f, g1, g2, g3⟩ := row_told (a := a) (b := b) (p := p) zx (by omega) (by omega) ha ha2 hb hb2 hp (show 0 ≤ x by grind) (show x + x ≤ 1 by grind)
  have f1 := incb_I_lo hv (by omega) (by omega) ha ha2 hb hb2 (by omega) h0 (show x + x ≤ 1 by grind) f ⟨g2, g3⟩
  have e : 1 - (1 - x) = x := by grind
  have f2 := incb_I_hi (a := b) (b := a) (p := p) (x := 1 - x) (RatA_rv zy) (by omega) (by omega) hb hb2 ha ha2 (by omega) (by grind) (by grind) (by rw [e]; exact f) ⟨g2, g3⟩
  obtain ⟨z1, z2⟩ := told_sz (p := p) (by omega) g2 g3
  have le := told_le (p := p) g1
  exact sides_in hk hv hn hd (by omega) (by omega) (by omega) f1 f2 (szR_mono z1 (by omega)) (szR_mono z2 (by omega)) (szR_mono (szR_sub one_szR z2 (by omega)) (by omega)) (szR_mono (szR_sub one_szR z1 (by omega)) (by omega)) (by grind) (by grind)
theorem sides_high (hk : Go.Ev.Fn CX 7 [] (.bool true)) (hv : RatA (ratV s n d) x 3) (hn : n.length ≤ 3) (hd : d.length ≤ 3) (ha : 1 ≤ a) (ha2 : a ≤ 20) (hb : 1 ≤ b) (hb2 : b ≤ 20) (hp : p ≤ 60) (h0 : 1 < x + x) (h1 : x < 1) :
    Go.Ev.Fn CX 4 [.int .i64 (a : Int), .int .i64 (b : Int), ratV s n d, .int .i64 (p : Int)] (.bool true) := by
  have zx := szR_of hv (by omega)
  have zy := szR_sub one_szR zx (by omega)
  obtain ⟨A, B, f, g1, g2, g3⟩ := row_told (a := b) (b := a) (p := p) zy (by omega) (by omega) hb hb2 ha ha2 hp (show 0 ≤ 1 - x by grind) (by grind)
  have f1 := incb_I_hi (a := a) (b := b) (p := p) hv (by omega) (by omega) ha ha2 hb hb2 (by omega) h0 h1 f ⟨g2, g3⟩
  have f2 := incb_I_lo (a := b) (b := a) (p := p) (RatA_rv zy) (by omega) (by omega) hb hb2 ha ha2 (by omega) (by grind) (by grind) f ⟨g2, g3⟩
  obtain ⟨z1, z2⟩ := told_sz (p := p) (by omega) g2 g3
  have le := told_le (p := p) g1
  exact sides_in hk hv hn hd (by omega) (by omega) (by omega) f1 f2 (szR_mono (szR_sub one_szR z2 (by omega)) (by omega)) (szR_mono (szR_sub one_szR z1 (by omega)) (by omega)) (szR_mono z1 (by omega)) (szR_mono z2 (by omega)) (by grind) (by grind)
theorem sides_ends (hk : Go.Ev.Fn CX 7 [] (.bool true)) (hv : RatA (ratV s n d) x 3) (hn : n.length ≤ 3) (hd : d.length ≤ 3) (ha : 1 ≤ a) (ha2 : a ≤ 20) (hb : 1 ≤ b) (hb2 : b ≤ 20) (hp : p ≤ 60) (h : x = 0 ∨ x = 1) :
    Go.Ev.Fn CX 4 [.int .i64 (a : Int), .int .i64 (b : Int), ratV s n d, .int .i64 (p : Int)] (.bool true) := by
  have zx := szR_of hv (by omega)
  have f1 := incb_I_ends (a := (a : Int)) (b := (b : Int)) (pI := (p : Int)) hv (by omega) (by omega) (by omega) (by omega) h
  have zy : szR (1 - x) 1 := by
    rcases h with rfl | rfl
    · exact ⟨lim_len_lt (by decide +kernel), lim_len_lt (by decide +kernel)⟩
    · exact ⟨lim_len_lt (by decide +kernel), lim_len_lt (by decide +kernel)⟩
  have f2 := incb_I_ends (a := (b : Int)) (b := (a : Int)) (pI := (p : Int)) (RatA_rv zy) (by omega) (by omega) (by omega) (by omega) (by rcases h with rfl | rfl; (exact .inr (by decide +kernel)); (exact .inl (by decide +kernel)))
  exact sides_in hk hv hn hd (by omega) (by omega) (by omega) f1 f2 (szR_mono zx (by omega)) (szR_mono zx (by omega)) (szR_mono zy (by omega)) (szR_mono zy (by omega)) (by grind) (by grind)
end
end Go.Proofs.YtigiblhmhmgagaaGreat
