/- Part 8 of the proof: the evaluator, contracts of functions and their plain laws (joined by program). No condition. -/
import Derived.Test.YtecjelnpmcnbaaaGreatPart7
set_option linter.unusedVariables false
set_option linter.unusedSimpArgs false
set_option maxRecDepth 100000
namespace Go.Ex
theorem castle {a b : Nat} (h : a ≤ b) : (a : Rat) ≤ (b : Rat) := by exact_mod_cast h
theorem castlt {a b : Nat} (h : a < b) : (a : Rat) < (b : Rat) := by exact_mod_cast h
theorem big_fac {n N b v r m sF sv : Nat} (hn : n = 4096) (hN : N = 266239) (hr : r = 6657) (hm : m = 64) (hsF : sF = 296) (hsv : sv = 520) (hb : b ≤ 2 ^ 240) (hv : v ≤ 2 ^ sv) (F L : Nat) (hF : F ≤ 2 ^ sF) (hL : L ≤ 2 ^ 90) :
    F ^ n * L ^ n * (b ^ n * fac n) * v ^ m * 64 ^ N * 2 ^ r < fac N := by
  have h1 : F ^ n ≤ 2 ^ (sF * n) := by rw [Nat.pow_mul]; exact Nat.pow_le_pow_left hF n
  have h2 : L ^ n ≤ 2 ^ (90 * n) := by rw [Nat.pow_mul]; exact Nat.pow_le_pow_left hL n
  have h3 : b ^ n ≤ 2 ^ (240 * n) := by rw [Nat.pow_mul]; exact Nat.pow_le_pow_left hb n
  have h4 : fac n ≤ 2 ^ (12 * n) := by
    refine Nat.le_trans (fac_up n) ?_
    rw [Nat.pow_mul]
    exact Nat.pow_le_pow_left (by omega) n
  have h5 : v ^ m ≤ 2 ^ (sv * m) := by rw [Nat.pow_mul]; exact Nat.pow_le_pow_left hv m
  have h6 : 64 ^ N ≤ 2 ^ (6 * N) := by rw [Nat.pow_mul]; exact Nat.le_refl _
  have h7 : 2 ^ (16 * N) ≤ fac N := by
    have a : 2 ^ (18 * N) ≤ N ^ N := by rw [Nat.pow_mul]; exact Nat.pow_le_pow_left (by omega) N
    have c : (4 : Nat) ^ N = 2 ^ (2 * N) := by rw [Nat.pow_mul]
    have d := Nat.le_trans a (fac_low N)
    rw [c, show 18 * N = 2 * N + 16 * N by omega, Nat.pow_add] at d
    exact Nat.le_of_mul_le_mul_left d (Nat.pow_pos (by omega))
  refine Nat.lt_of_lt_of_le (Nat.lt_of_le_of_lt (Nat.mul_le_mul (Nat.mul_le_mul (Nat.mul_le_mul (Nat.mul_le_mul (Nat.mul_le_mul h1 h2) (Nat.mul_le_mul h3 h4)) h5) h6) (Nat.le_refl (2 ^ r))) ?_) h7
  rw [← Nat.pow_add, ← Nat.pow_add, ← Nat.pow_add, ← Nat.pow_add, ← Nat.pow_add, ← Nat.pow_add]
  have e1 : sF * n = 296 * n := by rw [hsF]
  have e2 : sv * m = 33280 := by rw [hsv, hm]
  exact Nat.pow_lt_pow_right (by omega) (by omega)
theorem small_fac {n N b W r : Nat} (hn : n = 4096) (hN : N = 266239) (hr : r = 6665) (hb : b ≤ 2 ^ 240) (hW : 70000000 ≤ W) :
    65 * n * 2 ^ (66 * n) * 2 ^ (6 * n) * 2 ^ r * fac N * b ^ N ≤ 2 ^ W := by
  have h1 : 65 * n ≤ 2 ^ 19 := by omega
  have h3 : b ^ N ≤ 2 ^ (240 * N) := by rw [Nat.pow_mul]; exact Nat.pow_le_pow_left hb N
  have h4 : fac N ≤ 2 ^ (19 * N) := by
    refine Nat.le_trans (fac_up N) ?_
    rw [Nat.pow_mul]
    exact Nat.pow_le_pow_left (by omega) N
  refine Nat.le_trans (Nat.mul_le_mul (Nat.mul_le_mul (Nat.mul_le_mul (Nat.mul_le_mul (Nat.mul_le_mul h1 (Nat.le_refl _)) (Nat.le_refl _)) (Nat.le_refl _)) h4) h3) ?_
  rw [← Nat.pow_add, ← Nat.pow_add, ← Nat.pow_add, ← Nat.pow_add, ← Nat.pow_add]
  exact Nat.pow_le_pow_right (by omega) (by omega)
theorem tm_mono {x y : Rat} (hx : 0 ≤ x) (h : x ≤ y) : ∀ m, tm x m ≤ tm y m
  | 0 => Rat.le_refl
  | m + 1 => by
    refine le_by (nsucc_pos m) ?_
    have s1 := tm_succ x m
    have s2 := tm_succ y m
    have ih := tm_mono hx h m
    have m1 := Rat.mul_le_mul_of_nonneg_right h (tm_nn hx m)
    have m2 := Rat.mul_le_mul_of_nonneg_left ih (show 0 ≤ y by grind)
    rw [Rat.mul_comm (tm x (m + 1)), s1, Rat.mul_comm (tm y (m + 1)), s2]
    exact Rat.le_trans m1 m2
theorem tm_64 {x : Rat} (hx : 0 ≤ x) (h : x ≤ 64) : ∀ i, tm x i ≤ t2 (6 * i)
  | 0 => Rat.le_refl
  | i + 1 => by
    refine le_by (nsucc_pos i) ?_
    have s := tm_succ x i
    have ih := tm_64 hx h i
    have m1 := Rat.mul_le_mul_of_nonneg_right h (tm_nn hx i)
    have e : t2 (6 * (i + 1)) = 64 * t2 (6 * i) := by
      rw [show 6 * (i + 1) = 6 + 6 * i by omega, t2_add]; rfl
    have c : (1 : Rat) ≤ ((i + 1 : Nat) : Rat) := castle (show 1 ≤ i + 1 by omega)
    have P := Rat.le_of_lt (t2_pos (6 * (i + 1)))
    have m2 := Rat.mul_le_mul_of_nonneg_left c P
    rw [Rat.mul_comm (tm x (i + 1)), s]
    rw [e] at m2 ⊢
    generalize t2 (6 * i) = w at *
    grind
theorem pow_diff {e al B d : Rat} (he : 0 ≤ e) (hal : 0 ≤ al) (h1 : e ≤ B) (h2 : al ≤ B) (hB : 1 ≤ B) (hd : Bdd (e - al) d) : ∀ j : Nat, Bdd (e ^ j - al ^ j) ((j : Rat) * (B ^ j * d)) ∧ Bdd (e ^ j) (B ^ j) ∧ Bdd (al ^ j) (B ^ j)
  | 0 => by
    rw [Rat.pow_zero, Rat.pow_zero, Rat.pow_zero]
    have : ((0 : Nat) : Rat) = 0 := rfl
    rw [this]
    refine ⟨⟨by grind, by grind⟩, ⟨by decide, Rat.le_refl⟩, ⟨by decide, Rat.le_refl⟩⟩
  | j + 1 => by
    obtain ⟨ih, b1, b2⟩ := pow_diff he hal h1 h2 hB hd j
    have c1 : Bdd e B := ⟨by grind, h1⟩
    have c2 : Bdd al B := ⟨by grind, h2⟩
    rw [Rat.pow_succ, Rat.pow_succ, Rat.pow_succ]
    refine ⟨?_, Bdd_mul b1 c1, Bdd_mul b2 c2⟩
    have m1 := Bdd_mul b1 hd
    have m2 := Bdd_mul ih c2
    have s := Bdd_add m1 m2
    have nd := Bdd_nn hd
    have nB := Bdd_nn b1
    have k := Rat.mul_le_mul_of_nonneg_left hB (Rat.mul_nonneg nB nd)
    have ej : ((j + 1 : Nat) : Rat) = (j : Rat) + 1 := castadd j 1
    have e1 : e ^ j * e - al ^ j * al = e ^ j * (e - al) + (e ^ j - al ^ j) * al := by grind
    rw [e1, ej]
    refine Bdd_mono s ?_
    generalize B ^ j = P at *
    grind
theorem pow_t2 (k : Nat) : ∀ j : Nat, t2 k ^ j = t2 (k * j)
  | 0 => by rw [Rat.pow_zero, Nat.mul_zero]; rfl
  | j + 1 => by rw [Rat.pow_succ, pow_t2 k j, Nat.mul_succ, t2_add]
end Go.Ex
namespace Go.Ex
theorem mul_div4 {a b : Rat} (hb : 0 < b) : b * (a / b) = a := mul_div b a (by grind)
theorem exp_far {a b u v W : Nat} {x al : Rat} (hW : 70000000 ≤ W) (ha : 0 < a) (hb : 0 < b) (hb2 : b ≤ 2 ^ 240) (hx : x * (b : Rat) = (a : Rat)) (hx2 : x ≤ 64) {sv : Nat} (hsv : sv = 520) (hv : 0 < v) (hv2 : v ≤ 2 ^ sv) (hal : al * (v : Rat) = (u : Rat)) (ha0 : 0 < al) (ha2 : al ≤ t2 103) :
    ∃ K0 : Nat, ∀ K, K0 ≤ K → ¬ Bdd ((E x K - al) * t2 W) 1 := by
  obtain ⟨n, hn⟩ : ∃ n : Nat, n = 4096 := ⟨_, rfl⟩
  obtain ⟨N, hN⟩ : ∃ N : Nat, N = 266239 := ⟨_, rfl⟩
  obtain ⟨q, hq⟩ : ∃ q : Nat, q = 6656 := ⟨_, rfl⟩
  obtain ⟨sF, hsF⟩ : ∃ q : Nat, q = 296 := ⟨_, rfl⟩
  have bp : (0 : Rat) < (b : Rat) := castlt hb
  have vp : (0 : Rat) < (v : Rat) := castlt hv
  have hx0 : 0 < x := by
    rcases Rat.le_total (a := x) (b := 0) with h | h
    · have m := Rat.mul_le_mul_of_nonneg_right h (Rat.le_of_lt bp)
      rw [hx, Rat.zero_mul] at m
      have : (0 : Rat) < (a : Rat) := castlt ha
      grind
    · by_cases e : x = 0
      · subst e
        rw [Rat.zero_mul] at hx
        have : (0 : Rat) < (a : Rat) := castlt ha
        grind
      · grind
  have hx0' := Rat.le_of_lt hx0
  have T0 := tm_pos hx0 N
  -- how small the rest must be
  obtain ⟨C, hC⟩ : ∃ C : Rat, C = ((65 : Nat) : Rat) * ((n : Rat) * (t2 (66 * n) * t2 (6 * n))) := ⟨_, rfl⟩
  have Cp : 0 < C := by
    rw [hC]
    exact Rat.mul_pos (castlt (a := 0) (b := 65) (by omega)) (Rat.mul_pos (castlt (a := 0) (b := n) (by omega)) (Rat.mul_pos (t2_pos _) (t2_pos _)))
  obtain ⟨eta, heta⟩ : ∃ e : Rat, e = tm x N / (4 * C) := ⟨_, rfl⟩
  have C4 : 0 < 4 * C := Rat.mul_pos (by decide) Cp
  have etaC : 4 * C * eta = tm x N := by rw [heta]; exact mul_div4 C4
  have etap : 0 < eta := by
    rw [heta, Rat.div_def]; exact Rat.mul_pos T0 (Rat.inv_pos.2 C4)
  obtain ⟨N2, hN2⟩ := tm_small (y := ((64 : Nat) : Rat) * x) (jx_nn hx0' 64) etap
  refine ⟨N2 + n + N + 1, fun K hK hB => ?_⟩
  obtain ⟨e, he⟩ : ∃ e : Rat, e = E x K := ⟨_, rfl⟩
  rw [← he] at hB
  have e0 : 0 ≤ e := by rw [he]; exact E_nn hx0' K
  -- the distance
  obtain ⟨d, hd⟩ : ∃ d : Rat, d = 1 / t2 W := ⟨_, rfl⟩
  have Wp := t2_pos W
  have dW : t2 W * d = 1 := by rw [hd]; exact mul_div4 Wp
  have d0 : 0 < d := by
    rw [hd, Rat.div_def, Rat.one_mul]; exact Rat.inv_pos.2 Wp
  have hd2 : Bdd (e - al) d := by
    obtain ⟨b1, b2⟩ := hB
    constructor
    · refine le_by Wp ?_
      rw [show -d * t2 W = -(t2 W * d) by grind, dW]; exact b1
    · refine le_by Wp ?_
      rw [show d * t2 W = t2 W * d by grind, dW]; exact b2
  have d1 : d ≤ 1 := by
    refine le_by Wp ?_
    rw [show d * t2 W = t2 W * d by grind, dW, Rat.one_mul]
    exact castle (Nat.pow_pos (by omega))
  have B1 : (1 : Rat) ≤ t2 104 := by decide +kernel
  have eB : e ≤ t2 104 := by
    have : t2 104 = t2 103 + t2 103 := t2_succ 103
    have h1 : (1 : Rat) ≤ t2 103 := by decide +kernel
    obtain ⟨b1, b2⟩ := hd2
    rw [this]; grind
  have alB : al ≤ t2 104 := Rat.le_trans ha2 (t2_mono (by omega))
  have pd := pow_diff e0 (Rat.le_of_lt ha0) eB alB B1 hd2
  obtain ⟨Bq, hBq⟩ : ∃ q : Rat, q = t2 104 := ⟨_, rfl⟩
  rw [← hBq] at pd B1 eB alB
  have Bmono : ∀ j : Nat, j ≤ 64 → Bq ^ j ≤ t2 q := by
    intro j hj
    rw [hBq, pow_t2]
    exact t2_mono (by omega)
  -- the two forms
  have hM := nds_lt n
  have req := Rn_eq hM x K
  obtain ⟨R, hR⟩ : ∃ R, R = Rn (nds n) x K := ⟨_, rfl⟩
  obtain ⟨Q, hQ⟩ : ∃ Q, Q = LV (nds n) x (fun j _ => al ^ j) 65 := ⟨_, rfl⟩
  have hl : N + 1 = (nds n).length := by rw [nds_len]; omega
  have Rge : tm x N ≤ R := by rw [hR]; exact Rn_ge hx0' hl K (by omega)
  have Rle : R ≤ tm x N * t2 q := by
    rw [hR]
    refine Rat.le_trans (Rn_le (c := 64) hx0' hl (fun t ht => by have := hM t ht; omega) K) ?_
    refine Rat.mul_le_mul_of_nonneg_left ?_ (Rat.le_of_lt T0)
    refine Rat.le_trans (E_mono (jx_nn hx0' 64) (Nat.sub_le K N)) ?_
    refine Rat.le_trans (E_pow_ge hx0' (by omega) 64) ?_
    rw [← he]
    exact Rat.le_trans (pd 64).2.1.2 (Bmono 64 (by omega))
  have err : ∀ j i : Nat, j < 65 → i < n → Bdd (E ((j : Rat) * x) (K - i) - al ^ j) (eta + 64 * (t2 q * d)) := by
    intro j i hj hi
    have j64 : ((j : Nat) : Rat) * x ≤ ((64 : Nat) : Rat) * x := Rat.mul_le_mul_of_nonneg_right (castle (by omega)) hx0'
    obtain ⟨g1, g2⟩ := hN2 (K - i) (by omega)
    have up := E_tail_le (L := j * K + 1) (jx_nn hx0' j) (N := K - i) (by
      refine Rat.le_trans ?_ g1
      grind)
    have g3 := tm_mono (jx_nn hx0' j) j64 (K - i)
    have lo := Rat.le_trans (E_mono (jx_nn hx0' j) (Nat.sub_le K i)) (E_pow_ge hx0' (show 0 < K by omega) j)
    have hi2 := Rat.le_trans (E_pow_le hx0' K j) up
    rw [← he] at lo hi2
    have b1 : Bdd (E ((j : Rat) * x) (K - i) - e ^ j) eta := by
      constructor <;> grind
    have b2 := (pd j).1
    have b3 : Bdd (e ^ j - al ^ j) (64 * (t2 q * d)) := by
      refine Bdd_mono b2 ?_
      have m1 := Rat.mul_le_mul_of_nonneg_right (Bmono j (by omega)) (Rat.le_of_lt d0)
      have m2 : (j : Rat) ≤ 64 := castle (show j ≤ 64 by omega)
      have n1 := Rat.mul_nonneg (Bdd_nn (pd j).2.1) (Rat.le_of_lt d0)
      have m3 := Rat.mul_le_mul_of_nonneg_right m2 n1
      have m4 := Rat.mul_le_mul_of_nonneg_left m1 (show (0 : Rat) ≤ 64 by decide)
      exact Rat.le_trans m3 m4
    have s := Bdd_add b1 b2
    have s := Bdd_add b1 b3
    have e1 : E ((j : Rat) * x) (K - i) - al ^ j = E ((j : Rat) * x) (K - i) - e ^ j + (e ^ j - al ^ j) := by grind
    rw [e1]; exact s
  have df := LV_diff (M := nds n) (x := x) (A := t2 (66 * n)) (T := t2 (6 * n)) (n := n) hx0' 65 (fun j hj => ⟨nds_cnt hj n, fun i => Bdd_mono (coef_bd j (nds n) i) (t2_mono (by rw [nds_len, nds_cnt hj]; omega))⟩)
    (fun i hi => Rat.le_trans (tm_64 hx0' hx2 i) (t2_mono (by omega))) err
  rw [req, ← hR, ← hQ] at df
  have eC : ((65 : Nat) : Rat) * ((n : Rat) * (t2 (66 * n) * t2 (6 * n) * (eta + 64 * (t2 q * d)))) = C * eta + C * (64 * (t2 q * d)) := by rw [hC]; grind
  rw [eC] at df
  -- the distance's part is small as well
  have sm : 4 * (C * (64 * (t2 q * d))) ≤ tm x N := by
    have s := castle (small_fac (b := b) (r := q + 9) hn hN (by omega) hb2 hW)
    have tf := tm_fac x N
    have xb : x ^ N * (b : Rat) ^ N = (a : Rat) ^ N := by rw [← mul_powR, hx]
    have aN : (1 : Rat) ≤ (a : Rat) ^ N := by rw [← castpowN]; exact castle (Nat.pow_pos ha)
    have bN : (0 : Rat) < (b : Rat) ^ N := by rw [← castpowN]; exact castlt (Nat.pow_pos hb)
    have fN : (0 : Rat) < (fac N : Rat) := castlt (fac_pos N)
    have P : 0 < t2 W * ((fac N : Rat) * (b : Rat) ^ N) := Rat.mul_pos Wp (Rat.mul_pos fN bN)
    refine le_by P ?_
    have l : 4 * (C * (64 * (t2 q * d))) * (t2 W * ((fac N : Rat) * (b : Rat) ^ N)) = 4 * (C * (64 * t2 q)) * ((fac N : Rat) * (b : Rat) ^ N) * (t2 W * d) := by grind
    have r : tm x N * (t2 W * ((fac N : Rat) * (b : Rat) ^ N)) = t2 W * (tm x N * (fac N : Rat) * (b : Rat) ^ N) := by grind
    rw [l, r, dW, tf, xb, Rat.mul_one]
    have c1 : ((65 * n * 2 ^ (66 * n) * 2 ^ (6 * n) * 2 ^ (q + 9) * fac N * b ^ N : Nat) : Rat) = 4 * (C * (64 * t2 q)) * ((fac N : Rat) * (b : Rat) ^ N) * 2 := by
      rw [castmul, castmul, castmul, castmul, castmul, castmul, castpowN b, hC]
      have p : ((2 ^ (q + 9) : Nat) : Rat) = t2 q * 512 := t2_add q 9
      rw [p]
      generalize t2 q = q'
      grind
    rw [c1] at s
    have nn : 0 ≤ 4 * (C * (64 * t2 q)) * ((fac N : Rat) * (b : Rat) ^ N) := Rat.mul_nonneg (Rat.mul_nonneg (by decide) (Rat.mul_nonneg (Rat.le_of_lt Cp) (Rat.mul_nonneg (by decide) (Rat.le_of_lt (t2_pos _))))) (Rat.mul_nonneg (Rat.le_of_lt fN) (Rat.le_of_lt bN))
    have m := Rat.mul_le_mul_of_nonneg_left aN (Rat.le_of_lt Wp)
    have s' : 4 * (C * (64 * t2 q)) * ((fac N : Rat) * (b : Rat) ^ N) * 2 ≤ t2 W := s
    generalize 4 * (C * (64 * t2 q)) * ((fac N : Rat) * (b : Rat) ^ N) = z at *
    grind
  have ec : 4 * (C * eta) = tm x N := by rw [← etaC]; grind
  obtain ⟨f1, f2⟩ := df
  have Qpos : 0 < Q := by
    generalize C * eta = y1 at *
    generalize C * (64 * (t2 q * d)) = y2 at *
    clear Rle pd err
    grind
  have one : (1 : Rat) ≤ t2 q := by rw [show (1 : Rat) = t2 0 from rfl]; exact t2_mono (by omega)
  have Qle : Q ≤ tm x N * t2 (q + 1) := by
    have e2 : t2 (q + 1) = t2 q + t2 q := t2_succ q
    have m := Rat.mul_le_mul_of_nonneg_left one (Rat.le_of_lt T0)
    rw [e2, Rat.mul_add]
    generalize tm x N * t2 q = y0 at *
    generalize C * eta = y1 at *
    generalize C * (64 * (t2 q * d)) = y2 at *
    clear pd err
    grind
  -- it is a whole number by a denominator
  obtain ⟨D, hD⟩ : ∃ D : Rat, D = (F64 : Rat) ^ n * (L64 : Rat) ^ n * ((b : Rat) ^ n * (fac n : Rat)) * (v : Rat) ^ 64 := ⟨_, rfl⟩
  have qi : isI (Q * D) := by
    rw [hQ, hD]
    exact LV_int (fun i hi => tm_int hx (by omega)) 65 (Nat.le_refl _) (fun j hj => al_int hal (by omega))
  obtain ⟨F, hF⟩ : ∃ F : Nat, F64 = (F : Int) := ⟨F64.natAbs, by decide +kernel⟩
  obtain ⟨L, hL⟩ : ∃ L : Nat, L64 = (L : Int) := ⟨L64.natAbs, by decide +kernel⟩
  have hF2 : F ≤ 2 ^ sF ∧ 0 < F ∧ L ≤ 2 ^ 90 ∧ 0 < L := by
    have h := F64_le
    rw [hF, hL, ← hsF] at h
    exact ⟨by exact_mod_cast h.1, by exact_mod_cast h.2.1, by exact_mod_cast h.2.2.1, by exact_mod_cast h.2.2.2⟩
  have bf := big_fac (b := b) (v := v) (r := q + 1) (m := 64) hn hN (by omega) rfl hsF hsv hb2 hv2 F L hF2.1 hF2.2.2.1
  have Dn : D = ((F ^ n * L ^ n * (b ^ n * fac n) * v ^ 64 : Nat) : Rat) := by
    rw [hD, hF, hL, castmul, castmul, castmul, castmul, castpowN, castpowN, castpowN, castpowN]
    rfl
  have Dpos : 0 < D := by
    rw [Dn]
    exact castlt (Nat.mul_pos (Nat.mul_pos (Nat.mul_pos (Nat.pow_pos hF2.2.1) (Nat.pow_pos hF2.2.2.2)) (Nat.mul_pos (Nat.pow_pos hb) (fac_pos n))) (Nat.pow_pos hv))
  have lt1 : Q * D < 1 := by
    have fN : (0 : Rat) < (fac N : Rat) := castlt (fac_pos N)
    have tf := tm_fac x N
    have xp : x ^ N ≤ ((64 ^ N : Nat) : Rat) := by
      rw [castpowN]
      have g : ∀ k : Nat, x ^ k ≤ ((64 : Nat) : Rat) ^ k := by
        intro k
        induction k with
        | zero => rw [Rat.pow_zero, Rat.pow_zero]; exact Rat.le_refl
        | succ k ih =>
          rw [Rat.pow_succ, Rat.pow_succ]
          exact Rat.le_trans (Rat.mul_le_mul_of_nonneg_right ih hx0') (Rat.mul_le_mul_of_nonneg_left hx2 (pow_nn (nat_nn 64) k))
      exact g N
    have m1 := Rat.mul_le_mul_of_nonneg_right Qle (Rat.le_of_lt Dpos)
    have bf' := castlt bf
    rw [castmul, castmul, ← Dn] at bf'
    have P6 := t2_pos (q + 1)
    have bf2 : D * ((64 ^ N : Nat) : Rat) * t2 (q + 1) < (fac N : Rat) := bf'
    have m2 := Rat.mul_le_mul_of_nonneg_left xp (Rat.le_of_lt (Rat.mul_pos Dpos P6))
    refine Rat.not_le.1 fun hc => ?_
    have m3 := Rat.mul_le_mul_of_nonneg_right (Rat.le_trans hc m1) (Rat.le_of_lt fN)
    have r : tm x N * t2 (q + 1) * D * (fac N : Rat) = D * t2 (q + 1) * (tm x N * (fac N : Rat)) := by grind
    rw [r, tf, Rat.one_mul] at m3
    have r2 : D * ((64 ^ N : Nat) : Rat) * t2 (q + 1) = D * t2 (q + 1) * ((64 ^ N : Nat) : Rat) := by grind
    rw [r2] at bf2
    exact absurd (Rat.le_trans m3 m2) (Rat.not_le.2 bf2)
  obtain ⟨z, hz⟩ := qi
  have zp : 0 < Q * D := Rat.mul_pos Qpos Dpos
  rw [hz] at zp lt1
  have z1 : 0 < z := Rat.intCast_pos.1 zp
  have z2 : (1 : Rat) ≤ (z : Rat) := Rat.intCast_le_intCast.2 (show (1 : Int) ≤ z by omega)
  exact absurd z2 (Rat.not_le.2 lt1)
end Go.Ex
namespace Go.Proofs.YtecjelnpmcnbaaaGreat
open Go.Ev
def eRow (w Y : Nat) : Nat → Nat → Nat → Nat → Nat → Nat → Option (Nat × Nat)
  | 0, _, _, _, _, _ => none
  | f + 1, n, t1, t2, a1, a2 => if t2 < 2 then some (a1, a2 + 1) else
      eRow w Y f (n + 1) (t1 * Y / 2 ^ w * 1 / n) ((t2 * (Y + 1) / 2 ^ w + 1) * 1 / n + 1) (a1 + t1 * Y / 2 ^ w * 1 / n) (a2 + ((t2 * (Y + 1) / 2 ^ w + 1) * 1 / n + 1))
def eInv (w n t1 t2 a1 a2 : Nat) : Prop := 1 ≤ n ∧ t1 ≤ t2 ∧ t2 ≤ t1 + 5 ∧ t2 ≤ 2 ^ w + 1 ∧ 2 ^ w ≤ a1 ∧ a1 ≤ a2 ∧ a2 ≤ a1 + 5 * n ∧ a2 + t2 ≤ 2 ^ (w + 1) + 2 + 4 * n
theorem eInv_0 (w : Nat) : eInv w 1 (2 ^ w) (2 ^ w + 1) (2 ^ w) (2 ^ w + 1) := by
  have : 2 ^ (w + 1) = 2 ^ w * 2 := Nat.pow_succ _ _
  unfold eInv
  omega
theorem eStep_le {w Y n t2 : Nat} (hw : 64 ≤ w) (hY : Y + 1 ≤ 2 ^ (w - 7)) (hn : 1 ≤ n) : (t2 * (Y + 1) / 2 ^ w + 1) * 1 / n + 1 ≤ t2 / 128 + 2 := by
  have P : 0 < 2 ^ w := Nat.pow_pos (by omega)
  have e : 2 ^ w = 2 ^ (w - 7) * 128 := by rw [show (128 : Nat) = 2 ^ 7 from rfl, ← Nat.pow_add]; congr 1; omega
  have h1 : t2 * (Y + 1) / 2 ^ w ≤ t2 / 128 := by
    rw [e]
    refine Nat.le_trans (Nat.div_le_div_right (Nat.mul_le_mul_left t2 hY)) ?_
    rw [Nat.mul_comm t2, Nat.mul_div_mul_left _ _ (Nat.pow_pos (by omega))]
    exact Nat.le_refl _
  rw [Nat.mul_one]
  have h2 := Nat.div_le_self (t2 * (Y + 1) / 2 ^ w + 1) n
  omega
theorem eInv_step {w Y n t1 t2 a1 a2 : Nat} (hw : 64 ≤ w) (hY : Y + 1 ≤ 2 ^ (w - 7)) (h : eInv w n t1 t2 a1 a2) :
    eInv w (n + 1) (t1 * Y / 2 ^ w * 1 / n) ((t2 * (Y + 1) / 2 ^ w + 1) * 1 / n + 1) (a1 + t1 * Y / 2 ^ w * 1 / n) (a2 + ((t2 * (Y + 1) / 2 ^ w + 1) * 1 / n + 1)) := by
  obtain ⟨h1, h2, h3, h4, h5, h6, h7, h8⟩ := h
  have up := eStep_le (t2 := t2) hw hY h1
  have P : 0 < 2 ^ w := Nat.pow_pos (by omega)
  have e : 2 ^ w = 2 ^ (w - 7) * 128 := by rw [show (128 : Nat) = 2 ^ 7 from rfl, ← Nat.pow_add]; congr 1; omega
  have big : 1024 ≤ 2 ^ (w - 7) := Nat.le_trans (by decide) (Nat.pow_le_pow_right (n := 2) (by omega) (show 10 ≤ w - 7 by omega))
  have q1 : t2 * (Y + 1) / 2 ^ w ≤ t1 * Y / 2 ^ w + 2 := by
    have m1 : t2 * (Y + 1) ≤ t1 * Y + 2 ^ w * 2 := by
      have a := Nat.mul_le_mul_right (Y + 1) h3
      have b : (t1 + 5) * (Y + 1) = t1 * Y + t1 + 5 * (Y + 1) := by rw [Nat.add_mul, Nat.mul_add, Nat.mul_one]
      omega
    have := Nat.div_le_div_right (c := 2 ^ w) m1
    rwa [Nat.add_mul_div_left _ _ P] at this
  have q0 : t1 * Y / 2 ^ w ≤ t2 * (Y + 1) / 2 ^ w := Nat.div_le_div_right (Nat.mul_le_mul h2 (by omega))
  generalize t1 * Y / 2 ^ w = x1 at *
  generalize t2 * (Y + 1) / 2 ^ w = x2 at *
  rw [Nat.mul_one, Nat.mul_one] at *
  have g1 : x1 / n ≤ (x2 + 1) / n := Nat.div_le_div_right (by omega)
  have g2 : (x2 + 1) / n ≤ x1 / n + 3 := by
    have a : (x2 + 1) / n ≤ (x1 + 3 * n) / n := Nat.div_le_div_right (by have := Nat.le_mul_of_pos_right 3 h1; omega)
    rwa [Nat.add_mul_div_right _ _ h1] at a
  generalize x1 / n = u1 at *
  generalize (x2 + 1) / n = u2 at *
  unfold eInv
  omega
theorem eRow_end {w Y : Nat} (hw : 64 ≤ w) (hY : Y + 1 ≤ 2 ^ (w - 7)) : ∀ (m f n t1 t2 a1 a2 : Nat), eInv w n t1 t2 a1 a2 → t2 ≤ 2 ^ (7 * m) + 3 → (m = 0 → 2 ≤ n) → m + 2 ≤ f → ∃ A B s, eRow w Y f n t1 t2 a1 a2 = some (A, B) ∧ n ≤ s ∧ s ≤ n + m + 1 ∧ 2 ^ w ≤ A ∧ A ≤ B ∧ B ≤ A + 5 * s + 1 ∧ B ≤ 2 ^ (w + 1) + 3 + 4 * s := by
  intro m
  induction m with
  | zero =>
    intro f n t1 t2 a1 a2 h ht hn hf
    obtain ⟨f, rfl⟩ : ∃ k, f = k + 2 := ⟨f - 2, by omega⟩
    have hh := h
    obtain ⟨h1, h2, h3, h4, h5, h6, h7, h8⟩ := hh
    rw [eRow]
    by_cases g : t2 < 2
    · rw [if_pos g]
      exact ⟨a1, a2 + 1, n, rfl, Nat.le_refl _, by omega, h5, by omega, by omega, by omega⟩
    · rw [if_neg g]
      have st := eInv_step hw hY h
      have e : (t2 * (Y + 1) / 2 ^ w + 1) * 1 / n + 1 = 1 := by
        have P : 0 < 2 ^ w := Nat.pow_pos (by omega)
        have e7 : 2 ^ w = 2 ^ (w - 7) * 128 := by rw [show (128 : Nat) = 2 ^ 7 from rfl, ← Nat.pow_add]; congr 1; omega
        have z : t2 * (Y + 1) / 2 ^ w = 0 := by
          refine Nat.div_eq_of_lt ?_
          have m := Nat.mul_le_mul (show t2 ≤ 4 by have : 2 ^ (7 * 0) = 1 := rfl; omega) hY
          have : 0 < 2 ^ (w - 7) := Nat.pow_pos (by omega)
          omega
        rw [z, Nat.mul_one, Nat.zero_add, Nat.div_eq_of_lt (show 1 < n by have := hn rfl; omega)]
      rw [e] at st ⊢
      rw [eRow, if_pos (by omega)]
      obtain ⟨k1, k2, k3, k4, k5, k6, k7, k8⟩ := st
      exact ⟨_, _, n + 1, rfl, by omega, by omega, k5, by omega, by omega, by omega⟩
  | succ m ih =>
    intro f n t1 t2 a1 a2 h ht hn hf
    obtain ⟨f, rfl⟩ : ∃ k, f = k + 1 := ⟨f - 1, by omega⟩
    have hh := h
    obtain ⟨h1, h2, h3, h4, h5, h6, h7, h8⟩ := hh
    rw [eRow]
    by_cases g : t2 < 2
    · rw [if_pos g]
      exact ⟨a1, a2 + 1, n, rfl, Nat.le_refl _, by omega, h5, by omega, by omega, by omega⟩
    · rw [if_neg g]
      have st := eInv_step hw hY h
      have up := eStep_le (t2 := t2) hw hY h1
      have dv : t2 / 128 ≤ 2 ^ (7 * m) := by
        have e : 2 ^ (7 * (m + 1)) = 2 ^ (7 * m) * 128 := by rw [show 7 * (m + 1) = 7 * m + 7 by omega, Nat.pow_add]
        rw [e] at ht
        omega
      obtain ⟨A, B, s, r1, r2, r3, r4, r5, r6, r7⟩ := ih f (n + 1) _ _ _ _ st (by omega) (by omega) (by omega)
      exact ⟨A, B, s, r1, by omega, by omega, r4, r5, r6, r7⟩
theorem eRow_enc {w Y : Nat} {y : Rat} (hy : Enc w Y (Y + 1) y) (hy1 : y + y ≤ 1) : ∀ (f n t1 t2 a1 a2 A B : Nat), eRow w Y f (n + 1) t1 t2 a1 a2 = some (A, B) → Enc w t1 t2 (Ex.tm y n) → Enc w a1 a2 (Ex.E y (n + 1)) → ∃ s, ∀ L, s ≤ L → Enc w A B (Ex.E y L) := by
  have y0 := enc_nonneg hy
  intro f
  induction f with
  | zero => intro n t1 t2 a1 a2 A B h; cases h
  | succ f ih =>
    intro n t1 t2 a1 a2 A B h ht ha
    rw [eRow] at h
    by_cases g : t2 < 2
    · rw [if_pos g] at h
      simp only [Option.some.injEq, Prod.mk.injEq] at h
      obtain ⟨rfl, rfl⟩ := h
      refine ⟨n + 1, fun L hL => ?_⟩
      have P := p2_pos w
      have mono := Ex.E_mono y0 hL
      have c : ((2 : Nat) : Rat) ≤ ((n + 1 + 1 : Nat) : Rat) := by exact_mod_cast (by omega : 2 ≤ n + 1 + 1)
      have tail := Ex.E_tail_le (L := L) y0 (N := n + 1) (Rat.le_trans (show y + y ≤ ((2 : Nat) : Rat) from Rat.le_trans hy1 (by decide)) c)
      have tn := Ex.tm_nn y0 n
      have ts := Ex.tm_succ y n
      have half : 2 * Ex.tm y (n + 1) ≤ Ex.tm y n := by
        have c1 : ((1 : Nat) : Rat) ≤ ((n + 1 : Nat) : Rat) := by exact_mod_cast (by omega : 1 ≤ n + 1)
        have tn1 := Ex.tm_nn y0 (n + 1)
        have m1 := Rat.mul_le_mul_of_nonneg_right c1 tn1
        have m2 := Rat.mul_le_mul_of_nonneg_right hy1 tn
        rw [ts] at m1
        have e1 : ((1 : Nat) : Rat) = 1 := rfl
        rw [e1] at m1
        grind
      obtain ⟨l1, l2⟩ := ha
      obtain ⟨l3, l4⟩ := ht
      have t1' : (t2 : Rat) ≤ 1 := by exact_mod_cast (by omega : t2 ≤ 1)
      have eb : ((a2 + 1 : Nat) : Rat) = (a2 : Rat) + 1 := by exact_mod_cast rfl
      refine ⟨Rat.le_trans l1 (Rat.mul_le_mul_of_nonneg_right mono (Rat.le_of_lt P)), ?_⟩
      rw [eb]
      have m3 := Rat.mul_le_mul_of_nonneg_right (show Ex.E y L ≤ Ex.E y (n + 1) + Ex.tm y n by grind) (Rat.le_of_lt P)
      rw [Rat.add_mul] at m3
      generalize Ex.E y L * p2 w = z1 at *
      generalize Ex.E y (n + 1) * p2 w = z2 at *
      generalize Ex.tm y n * p2 w = z3 at *
      clear mono tail tn ts half
      grind
    · rw [if_neg g] at h
      have e1 := enc_times (n := 1) (d := n + 1) (by omega) (enc_mul ht hy)
      have e2 : Ex.tm y n * y * ((1 : Nat) : Rat) / ((n + 1 : Nat) : Rat) = Ex.tm y (n + 1) := by
        have : ((1 : Nat) : Rat) = 1 := rfl
        rw [this, Rat.mul_one]; rfl
      rw [e2] at e1
      exact ih (n + 1) _ _ _ _ A B h e1 (enc_add ha e1)
def sqs (w : Nat) : Nat → Nat → Nat → Nat × Nat
  | 0, lo, hi => (lo, hi)
  | k + 1, lo, hi => sqs w k (lo * lo / 2 ^ w) (hi * hi / 2 ^ w + 1)
theorem sq_step {w lo hi c G : Nat} (h1 : 2 ^ w ≤ lo) (h2 : lo ≤ hi) (h3 : hi < 2 ^ (w + c)) (h4 : hi ≤ lo + G) (hG : 1 ≤ G) :
    2 ^ w ≤ lo * lo / 2 ^ w ∧ lo * lo / 2 ^ w ≤ hi * hi / 2 ^ w + 1 ∧ hi * hi / 2 ^ w + 1 < 2 ^ (w + (c + c)) ∧ hi * hi / 2 ^ w + 1 ≤ lo * lo / 2 ^ w + G * 2 ^ (c + 2) := by
  have P : 0 < 2 ^ w := Nat.pow_pos (by omega)
  have Pc : 0 < 2 ^ c := Nat.pow_pos (by omega)
  have e1 : 2 ^ (w + c) = 2 ^ w * 2 ^ c := Nat.pow_add _ _ _
  have e2 : 2 ^ (w + (c + c)) = 2 ^ w * 2 ^ c * 2 ^ c := by rw [Nat.pow_add, Nat.pow_add, Nat.mul_assoc]
  have e3 : 2 ^ (c + 2) = 2 ^ c * 4 := Nat.pow_add _ _ _
  refine ⟨(Nat.le_div_iff_mul_le P).2 (Nat.mul_le_mul h1 h1), Nat.le_succ_of_le (Nat.div_le_div_right (Nat.mul_le_mul h2 h2)), ?_, ?_⟩
  · have m : hi * hi < (2 ^ w * 2 ^ c * 2 ^ c - 1) * 2 ^ w := by
      obtain ⟨d, hd⟩ : ∃ d, 2 ^ w * 2 ^ c = hi + 1 + d := ⟨2 ^ w * 2 ^ c - hi - 1, by omega⟩
      have a : (hi + 1) * (hi + 1) ≤ 2 ^ w * 2 ^ c * (2 ^ w * 2 ^ c) := Nat.mul_le_mul (by omega) (by omega)
      have b : 2 ^ w * 2 ^ c * (2 ^ w * 2 ^ c) = 2 ^ w * 2 ^ c * 2 ^ c * 2 ^ w := by generalize 2 ^ w = x; generalize 2 ^ c = y; grind
      have e : (hi + 1) * (hi + 1) = hi * hi + 2 * hi + 1 := by clear h1 h2 h3 h4 a; grind
      rw [e, b] at a
      rw [Nat.sub_mul, Nat.one_mul]
      have : 2 ^ w ≤ hi := Nat.le_trans h1 h2
      generalize 2 ^ w * 2 ^ c * 2 ^ c * 2 ^ w = z at *
      generalize hi * hi = y at *
      omega
    have r := (Nat.div_lt_iff_lt_mul P).2 m
    rw [e2]
    clear m e2 e1 e3 h3 h4
    generalize hi * hi / 2 ^ w = t at *
    generalize 2 ^ w * 2 ^ c * 2 ^ c = z at *
    omega
  · have m : hi * hi ≤ lo * lo + 2 ^ w * (G * (2 ^ c * 2)) := by
      obtain ⟨g, hg, hgG⟩ : ∃ g, hi = lo + g ∧ g ≤ G := ⟨hi - lo, by omega, by omega⟩
      have a : hi * hi = lo * lo + g * (hi + lo) := by subst hg; clear h1 h2 h3 h4; grind
      have b : g * (hi + lo) ≤ G * (2 ^ w * 2 ^ c * 2) := Nat.mul_le_mul hgG (by omega)
      have e : G * (2 ^ w * 2 ^ c * 2) = 2 ^ w * (G * (2 ^ c * 2)) := by rw [Nat.mul_assoc (2 ^ w), Nat.mul_left_comm]
      omega
    have := Nat.div_le_div_right (c := 2 ^ w) m
    rw [Nat.add_mul_div_left _ _ P] at this
    have k : 1 ≤ G * (2 ^ c * 2) := Nat.mul_pos hG (by omega)
    have e : G * 2 ^ (c + 2) = G * (2 ^ c * 2) * 2 := by rw [e3, Nat.mul_assoc, Nat.mul_assoc]
    omega
theorem sqs_ok {w : Nat} : ∀ (k lo hi c G : Nat), 2 ^ w ≤ lo → lo ≤ hi → hi < 2 ^ (w + c) → hi ≤ lo + G → 1 ≤ G →
    2 ^ w ≤ (sqs w k lo hi).1 ∧ (sqs w k lo hi).1 ≤ (sqs w k lo hi).2 ∧ (sqs w k lo hi).2 < 2 ^ (w + c * 2 ^ k) ∧ (sqs w k lo hi).2 ≤ (sqs w k lo hi).1 + G * 2 ^ (c * (2 ^ k - 1) + 2 * k)
  | 0, lo, hi, c, G, h1, h2, h3, h4, h5 => by
    refine ⟨h1, h2, ?_, ?_⟩
    · rw [Nat.pow_zero, Nat.mul_one]; exact h3
    · show hi ≤ lo + G * 2 ^ (c * (2 ^ 0 - 1) + 2 * 0)
      rw [Nat.pow_zero, Nat.sub_self, Nat.mul_zero, Nat.pow_zero, Nat.mul_one]; exact h4
  | k + 1, lo, hi, c, G, h1, h2, h3, h4, h5 => by
    obtain ⟨s1, s2, s3, s4⟩ := sq_step h1 h2 h3 h4 h5
    have ih := sqs_ok k (lo * lo / 2 ^ w) (hi * hi / 2 ^ w + 1) (c + c) (G * 2 ^ (c + 2)) s1 s2 s3 s4 (Nat.mul_pos h5 (Nat.pow_pos (by omega)))
    obtain ⟨i1, i2, i3, i4⟩ := ih
    have p : 0 < 2 ^ k := Nat.pow_pos (by omega)
    have pk : 2 ^ (k + 1) = 2 ^ k * 2 := Nat.pow_succ _ _
    refine ⟨i1, i2, ?_, ?_⟩
    · have e : (c + c) * 2 ^ k = c * 2 ^ (k + 1) := by rw [pk, ← Nat.mul_two, Nat.mul_assoc, Nat.mul_comm 2]
      rw [← e]; exact i3
    · have e : G * 2 ^ (c + 2) * 2 ^ ((c + c) * (2 ^ k - 1) + 2 * k) = G * 2 ^ (c * (2 ^ (k + 1) - 1) + 2 * (k + 1)) := by
        rw [Nat.mul_assoc, ← Nat.pow_add]
        congr 2
        obtain ⟨q, hq⟩ : ∃ q, 2 ^ k = q + 1 := ⟨2 ^ k - 1, by omega⟩
        rw [pk, hq, show q + 1 - 1 = q by omega, show (q + 1) * 2 - 1 = q + q + 1 by omega, Nat.mul_add, Nat.mul_add, Nat.mul_one, Nat.add_mul]
        omega
      rw [← e]; exact i4
theorem sqs_enc {w : Nat} : ∀ (k lo hi : Nat) (q : Rat), Enc w lo hi q → Enc w (sqs w k lo hi).1 (sqs w k lo hi).2 (q ^ 2 ^ k)
  | 0, lo, hi, q, h => by
    rw [Nat.pow_zero, Rat.pow_succ, Rat.pow_zero, Rat.one_mul]; exact h
  | k + 1, lo, hi, q, h => by
    have ih := sqs_enc k _ _ (q * q) (enc_mul h h)
    have e : q ^ 2 ^ (k + 1) = (q * q) ^ 2 ^ k := by
      rw [Nat.pow_succ, Nat.mul_two, Ex.pow_plus, Ex.mul_powR]
    rw [e]; exact ih
end Go.Proofs.YtecjelnpmcnbaaaGreat
namespace Go.Proofs.YtecjelnpmcnbaaaGreat
open Go.Ev
theorem E_three {y : Rat} (h0 : 0 ≤ y) (h1 : y ≤ 1) (L : Nat) : Ex.E y L ≤ 3 := by
  have t := Ex.E_tail_le (L := L) h0 (N := 1) (show y + y ≤ ((1 + 1 : Nat) : Rat) by have : ((1 + 1 : Nat) : Rat) = 2 := rfl; rw [this]; grind)
  have e1 : Ex.E y 1 = 1 := by show (0 : Rat) + 1 = 1; decide +kernel
  have s := Ex.tm_succ y 0
  have e2 : ((0 + 1 : Nat) : Rat) = 1 := rfl
  have e3 : Ex.tm y 0 = 1 := rfl
  rw [e2, e3] at s
  rw [e1] at t
  grind
theorem pow_mono {a b : Rat} (h0 : 0 ≤ a) (h : a ≤ b) : ∀ n : Nat, a ^ n ≤ b ^ n
  | 0 => by rw [Rat.pow_zero, Rat.pow_zero]; exact Rat.le_refl
  | n + 1 => by
    rw [Rat.pow_succ, Rat.pow_succ]
    exact Rat.le_trans (Rat.mul_le_mul_of_nonneg_right (pow_mono h0 h n) h0) (Rat.mul_le_mul_of_nonneg_left h (Ex.pow_nn (show 0 ≤ b by grind) n))
theorem E_big {x : Rat} (h0 : 0 ≤ x) (h1 : x ≤ 64) (L : Nat) : Ex.E x L ≤ Ex.t2 102 := by
  rcases Nat.eq_zero_or_pos L with e | e
  · subst e; exact Rat.le_of_lt (Ex.t2_pos 102)
  · have hq : (1 / 64 : Rat) * 64 = 1 := by decide +kernel
    have q0 : (0 : Rat) ≤ 1 / 64 := by decide +kernel
    have y0 : 0 ≤ 1 / 64 * x := Rat.mul_nonneg q0 h0
    have y1 : 1 / 64 * x ≤ 1 := by
      have := Rat.mul_le_mul_of_nonneg_left h1 q0
      rwa [hq] at this
    have p := Ex.E_pow_ge y0 e 64
    have ex : ((64 : Nat) : Rat) * (1 / 64 * x) = x := by
      have : ((64 : Nat) : Rat) = 64 := rfl
      rw [this]; generalize (1 / 64 : Rat) = q at *; grind
    rw [ex] at p
    have t : (3 : Rat) ^ 64 ≤ Ex.t2 102 := by decide +kernel
    exact Rat.le_trans p (Rat.le_trans (pow_mono (Ex.E_nn y0 L) (E_three y0 y1 L) 64) t)
theorem E_one {x : Rat} (h0 : 0 ≤ x) {L : Nat} (h : 1 ≤ L) : 1 ≤ Ex.E x L := by
  have m := Ex.E_mono h0 h
  have e1 : Ex.E x 1 = 1 := by show (0 : Rat) + 1 = 1; decide +kernel
  rw [e1] at m; exact m
theorem near_ok {n d w g c : Nat} (hg : g = 32794) (hc : c = 32768) (hd : 0 < d) (h : n ≤ 64 * d) (hw : 160 ≤ w) :
    ∃ A B : Nat, eRow w (n * 2 ^ w / (d * 2 ^ 14)) (w / 7 + 3) 1 (2 ^ w) (2 ^ w + 1) (2 ^ w) (2 ^ w + 1) = some (A, B) ∧ A ≤ B ∧ 2 ^ w ≤ A ∧ B < 2 ^ (w + 2) ∧ 2 ^ w ≤ (sqs w 14 A B).1 ∧ (sqs w 14 A B).1 ≤ (sqs w 14 A B).2 ∧ (sqs w 14 A B).2 < 2 ^ (w + c) ∧
      (sqs w 14 A B).2 ≤ (sqs w 14 A B).1 + w * 2 ^ g ∧ ∀ x : Rat, x * (d : Rat) = (n : Rat) → ∃ s, ∀ L, s ≤ L → Enc w (sqs w 14 A B).1 (sqs w 14 A B).2 (Ex.E x L) := by
  obtain ⟨Y, hY⟩ : ∃ Y : Nat, Y = n * 2 ^ w / (d * 2 ^ 14) := ⟨_, rfl⟩
  rw [← hY]
  have dp : 0 < d * 2 ^ 14 := by omega
  have P : 0 < 2 ^ w := Nat.pow_pos (by omega)
  have e8 : 2 ^ w = 2 ^ (w - 8) * 256 := by rw [show (256 : Nat) = 2 ^ 8 from rfl, ← Nat.pow_add]; congr 1; omega
  have e7 : 2 ^ (w - 7) = 2 ^ (w - 8) * 2 := by rw [← Nat.pow_succ]; congr 1; omega
  have p8 : 0 < 2 ^ (w - 8) := Nat.pow_pos (by omega)
  have Yle : Y ≤ 2 ^ (w - 8) := by
    rw [hY]
    refine (Nat.div_le_iff_le_mul dp).2 ?_
    have m := Nat.mul_le_mul_right (2 ^ w) h
    have k : 64 * d * 2 ^ w = 2 ^ (w - 8) * (d * 2 ^ 14) := by
      rw [e8]; generalize 2 ^ (w - 8) = z; rw [show (2 : Nat) ^ 14 = 16384 from rfl]; grind
    omega
  have hY1 : Y + 1 ≤ 2 ^ (w - 7) := by omega
  obtain ⟨A, B, s, r1, r2, r3, r4, r5, r6, r7⟩ := eRow_end (w := w) (Y := Y) (by omega) hY1 (w / 7 + 1) (w / 7 + 3) 1 (2 ^ w) (2 ^ w + 1) (2 ^ w) (2 ^ w + 1) (eInv_0 w) (by
    have : 2 ^ w ≤ 2 ^ (7 * (w / 7 + 1)) := Nat.pow_le_pow_right (by omega) (by omega)
    omega) (by omega) (by omega)
  have lw : w < 2 ^ w := Nat.lt_two_pow_self
  have e1 : 2 ^ (w + 1) = 2 ^ w * 2 := Nat.pow_succ _ _
  have e2 : 2 ^ (w + 2) = 2 ^ w * 4 := Nat.pow_add _ _ _
  obtain ⟨q1, q2, q3, q4⟩ := sqs_ok 14 A B 2 w r4 r5 (by omega) (by omega) (by omega)
  rw [show 2 * (2 ^ 14 - 1) + 2 * 14 = g by omega] at q4
  rw [show 2 * 2 ^ 14 = c by omega] at q3
  refine ⟨A, B, r1, r5, r4, by omega, q1, q2, q3, q4, fun x hx => ?_⟩
  have dR : (0 : Rat) < (d : Rat) := by exact_mod_cast hd
  obtain ⟨j, hj⟩ : ∃ j : Nat, j = 2 ^ 14 := ⟨_, rfl⟩
  have jR : (0 : Rat) < (j : Rat) := by exact_mod_cast (by omega : 0 < j)
  obtain ⟨y, hy⟩ : ∃ y : Rat, y = x / (j : Rat) := ⟨_, rfl⟩
  have jy : (j : Rat) * y = x := by rw [hy]; exact Ex.mul_div _ _ (by grind)
  have dj : (d : Rat) * (j : Rat) = ((d * 2 ^ 14 : Nat) : Rat) := by rw [← hj]; exact_mod_cast rfl
  have yd : y * ((d * 2 ^ 14 : Nat) : Rat) = (n : Rat) := by rw [← dj, ← hx, ← jy]; grind
  have dpR : (0 : Rat) < ((d * 2 ^ 14 : Nat) : Rat) := by exact_mod_cast dp
  have PR := p2_pos w
  have en : Enc w Y (Y + 1) y := by
    have f := floor_le (a := n * 2 ^ w) (d := d * 2 ^ 14)
    have g := le_floor (a := n * 2 ^ w) (d := d * 2 ^ 14) dp
    rw [← hY] at f g
    have k : ((n * 2 ^ w : Nat) : Rat) = y * p2 w * ((d * 2 ^ 14 : Nat) : Rat) := by
      have : ((n * 2 ^ w : Nat) : Rat) = (n : Rat) * p2 w := by exact_mod_cast rfl
      rw [this, ← yd]; grind
    rw [k] at f g
    exact ⟨le_by dpR f, le_by dpR g⟩
  have y0 := enc_nonneg en
  have y1 : y + y ≤ 1 := by
    refine le_by dpR ?_
    rw [Rat.add_mul, yd, Rat.one_mul]
    have : n + n ≤ d * 2 ^ 14 := by omega
    have t : ((n + n : Nat) : Rat) ≤ ((d * 2 ^ 14 : Nat) : Rat) := by exact_mod_cast this
    have e : ((n + n : Nat) : Rat) = (n : Rat) + (n : Rat) := by exact_mod_cast rfl
    rw [e] at t; exact t
  have one : Enc w (2 ^ w) (2 ^ w + 1) 1 := by
    refine ⟨by rw [Rat.one_mul]; exact Rat.le_refl, ?_⟩
    rw [Rat.one_mul]
    exact_mod_cast Nat.le_succ (2 ^ w)
  have E1 : Ex.E y 1 = 1 := by show (0 : Rat) + 1 = 1; decide +kernel
  obtain ⟨s1, hs⟩ := eRow_enc en y1 (w / 7 + 3) 0 _ _ _ _ A B r1 one (by rw [E1]; exact one)
  refine ⟨j * (s1 + 1) + 1, fun L hL => ?_⟩
  have k1 : s1 + 1 ≤ j * (s1 + 1) := Nat.le_mul_of_pos_left _ (by omega)
  have a1 := (sqs_enc 14 A B _ (hs (s1 + 1) (by omega))).1
  have a2 := (sqs_enc 14 A B _ (hs L (by omega))).2
  rw [← hj] at a1 a2
  have u1 := Ex.E_pow_le y0 (s1 + 1) j
  have u2 := Ex.E_pow_ge y0 (show 0 < L by omega) j
  rw [jy] at u1 u2
  have x0 : 0 ≤ x := by rw [← jy]; exact Rat.mul_nonneg (Rat.le_of_lt jR) y0
  have m := Ex.E_mono x0 hL
  exact ⟨Rat.le_trans a1 (Rat.mul_le_mul_of_nonneg_right (Rat.le_trans u1 m) (Rat.le_of_lt PR)), Rat.le_trans (Rat.mul_le_mul_of_nonneg_right u2 (Rat.le_of_lt PR)) a2⟩
theorem cert_or {lo hi w p : Nat} (h : lo < hi) (hc : lo / 2 ^ (w - p) ≠ (hi - 1) / 2 ^ (w - p)) : ∃ u : Nat, 0 < u ∧ lo ≤ u * 2 ^ (w - p) ∧ u * 2 ^ (w - p) ≤ hi - 1 := by
  have P : 0 < 2 ^ (w - p) := Nat.pow_pos (by omega)
  have m : lo / 2 ^ (w - p) ≤ (hi - 1) / 2 ^ (w - p) := Nat.div_le_div_right (by omega)
  have lt := Nat.lt_of_le_of_ne m hc
  refine ⟨(hi - 1) / 2 ^ (w - p), Nat.lt_of_le_of_lt (Nat.zero_le _) lt, ?_, Nat.div_mul_le_self _ _⟩
  have k := Nat.lt_mul_div_succ lo P
  have k2 : 2 ^ (w - p) * (lo / 2 ^ (w - p) + 1) ≤ 2 ^ (w - p) * ((hi - 1) / 2 ^ (w - p)) := Nat.mul_le_mul_left _ lt
  rw [Nat.mul_comm]
  exact Nat.le_of_lt (Nat.lt_of_lt_of_le k k2)
theorem dist_bd {w lo hi G : Nat} {q r : Rat} (h1 : Enc w lo hi q) (h2 : (lo : Rat) ≤ r * p2 w) (h3 : r * p2 w ≤ (hi : Rat)) (hG : hi ≤ lo + G) : Ex.Bdd ((q - r) * p2 w) (G : Rat) := by
  obtain ⟨a, b⟩ := h1
  have k : (hi : Rat) ≤ ((lo + G : Nat) : Rat) := by exact_mod_cast hG
  have e : ((lo + G : Nat) : Rat) = (lo : Rat) + (G : Rat) := by exact_mod_cast rfl
  rw [e] at k
  rw [show (q - r) * p2 w = q * p2 w - r * p2 w by grind]
  generalize q * p2 w = x at *
  generalize r * p2 w = y at *
  constructor <;> grind
theorem bd_less {z : Rat} {w W : Nat} {G : Rat} (h : Ex.Bdd (z * p2 w) G) (hG : G * Ex.t2 W ≤ p2 w) : Ex.Bdd (z * Ex.t2 W) 1 := by
  have P := p2_pos w
  have T := Ex.t2_pos W
  obtain ⟨a, b⟩ := h
  have m1 := Rat.mul_le_mul_of_nonneg_right a (Rat.le_of_lt T)
  have m2 := Rat.mul_le_mul_of_nonneg_right b (Rat.le_of_lt T)
  have e : z * p2 w * Ex.t2 W = z * Ex.t2 W * p2 w := by grind
  rw [e] at m1 m2
  constructor
  · refine le_by P ?_
    generalize z * Ex.t2 W * p2 w = y at *
    have : -G * Ex.t2 W = -(G * Ex.t2 W) := by grind
    rw [this] at m1
    grind
  · refine le_by P ?_
    generalize z * Ex.t2 W * p2 w = y at *
    grind
theorem cast_p2 (u w p : Nat) (h : p ≤ w) : ((u * 2 ^ (w - p) : Nat) : Rat) * p2 p = (u : Rat) * p2 w := by
  have e : 2 ^ w = 2 ^ (w - p) * 2 ^ p := by rw [← Nat.pow_add]; congr 1; omega
  have e2 : p2 w = p2 (w - p) * p2 p := by
    show ((2 ^ w : Nat) : Rat) = _
    rw [e]; exact_mod_cast rfl
  have e3 : ((u * 2 ^ (w - p) : Nat) : Rat) = (u : Rat) * p2 (w - p) := by exact_mod_cast rfl
  rw [e2, e3, Rat.mul_assoc]
theorem size_W {w g r W : Nat} (hW : W = 70000000) (hg : g + r ≤ 40000) (hw : 71000000 ≤ w) (hw2 : w ≤ 2 ^ 40) : ((w * 2 ^ g * 2 ^ r : Nat) : Rat) * Ex.t2 W ≤ p2 w := by
  have h : w * 2 ^ g * 2 ^ r * 2 ^ W ≤ 2 ^ w := by
    refine Nat.le_trans (Nat.mul_le_mul_right _ (Nat.mul_le_mul_right _ (Nat.mul_le_mul_right _ hw2))) ?_
    rw [← Nat.pow_add, ← Nat.pow_add, ← Nat.pow_add]
    exact Nat.pow_le_pow_right (by omega) (by omega)
  have e : ((w * 2 ^ g * 2 ^ r * 2 ^ W : Nat) : Rat) = ((w * 2 ^ g * 2 ^ r : Nat) : Rat) * Ex.t2 W := Ex.castmul _ _
  rw [← e]
  exact Ex.castle h
theorem near_le {e al T : Rat} (d : -1 ≤ (e - al) * T) (T1 : 1 ≤ T) : al ≤ e + 1 := by
  refine Rat.not_lt.1 fun h => ?_
  have m := Rat.mul_le_mul_of_nonneg_left T1 (show 0 ≤ al - e by grind)
  grind
theorem le_two {e al M : Rat} (h1 : al ≤ e + 1) (h2 : e ≤ M) (h3 : 1 ≤ M) : al ≤ M + M := by grind
theorem cert_pos {a b lo hi w p g s : Nat} {x : Rat} (ha : 0 < a) (hb : 0 < b) (hb2 : b ≤ 2 ^ 240) (hx : x * (b : Rat) = (a : Rat)) (hx2 : x ≤ 64) (hp : p ≤ 512) (hg : g ≤ 39000) (h : lo < hi) (hG : hi ≤ lo + w * 2 ^ g)
    (hE : ∀ L, s ≤ L → Enc w lo hi (Ex.E x L)) (hw : 71000000 ≤ w) (hw2 : w ≤ 2 ^ 40) : lo / 2 ^ (w - p) = (hi - 1) / 2 ^ (w - p) := by
  refine Classical.byContradiction fun hc => ?_
  obtain ⟨u, u0, u1, u2⟩ := cert_or h hc
  obtain ⟨W, hW⟩ : ∃ k : Nat, k = 70000000 := ⟨_, rfl⟩
  obtain ⟨sv, hsv⟩ : ∃ k : Nat, k = 520 := ⟨_, rfl⟩
  have Pp := p2_pos p
  have P := p2_pos w
  obtain ⟨al, hal⟩ : ∃ r : Rat, r = (u : Rat) / p2 p := ⟨_, rfl⟩
  have ap : al * p2 p = (u : Rat) := by rw [hal]; exact Rat.div_mul_cancel (by grind)
  have uR : (0 : Rat) < (u : Rat) := Ex.castlt u0
  have a0 : 0 < al := by
    rw [hal, Rat.div_def]; exact Rat.mul_pos uR (Rat.inv_pos.2 Pp)
  have c := cast_p2 u w p (by omega)
  have ku : al * p2 w = ((u * 2 ^ (w - p) : Nat) : Rat) := by
    refine Ex.cancel_l (c := p2 p) (by grind) ?_
    rw [Rat.mul_comm, Rat.mul_comm (p2 p), c, ← ap]; grind
  have x0 : 0 ≤ x := by
    have bp : (0 : Rat) < (b : Rat) := Ex.castlt hb
    refine le_by bp ?_
    rw [hx, Rat.zero_mul]; exact nat_nonneg a
  have l1 : (lo : Rat) ≤ al * p2 w := by rw [ku]; exact Ex.castle u1
  have l2 : al * p2 w ≤ (hi : Rat) := by rw [ku]; exact Ex.castle (by omega)
  have near : ∀ L, s ≤ L → Ex.Bdd ((Ex.E x L - al) * Ex.t2 W) 1 := by
    intro L hL
    have d := dist_bd (hE L hL) l1 l2 hG
    refine bd_less d ?_
    have z := size_W (w := w) (g := g) (r := 0) hW (by omega) hw hw2
    rw [Nat.pow_zero, Nat.mul_one] at z
    exact z
  have al2 : al ≤ Ex.t2 103 := by
    have d := near s (Nat.le_refl s)
    have e := E_big x0 hx2 s
    have t : Ex.t2 103 = Ex.t2 102 + Ex.t2 102 := Ex.t2_succ 102
    have o : (1 : Rat) ≤ Ex.t2 102 := by decide +kernel
    have n := near_le d.1 (Ex.t2_mono (show 0 ≤ W by omega))
    rw [t]
    exact le_two n e o
  obtain ⟨K0, hK⟩ := Ex.exp_far (W := W) (by omega) ha hb hb2 hx hx2 hsv (v := 2 ^ p) (u := u) (Nat.pow_pos (by omega)) (Nat.pow_le_pow_right (by omega) (by omega)) ap a0 al2
  exact hK (max K0 s) (Nat.le_max_left _ _) (near _ (Nat.le_max_right _ _))
theorem inv_gapE {M lo hi W : Nat} (h1 : 0 < W) (h2 : M = W * W) (h3 : W ≤ lo) (h4 : lo < hi) (h5 : hi - lo ≤ W) : M / lo ≤ M / hi + (hi - lo) + 1 ∧ M / hi ≤ M / lo ∧ M / lo ≤ W := by
  have lp : 0 < lo := by omega
  have hp : 0 < hi := by omega
  have a : M / hi ≤ W := by
    refine (Nat.div_le_iff_le_mul hp).2 ?_
    rw [h2]
    have := Nat.mul_le_mul_left W (show W ≤ hi by omega)
    omega
  have b : M / lo ≤ W := by
    refine (Nat.div_le_iff_le_mul lp).2 ?_
    rw [h2]
    have := Nat.mul_le_mul_left W h3
    omega
  refine ⟨?_, Nat.div_le_div_left (by omega) lp, b⟩
  refine Nat.le_of_lt_succ ((Nat.div_lt_iff_lt_mul lp).2 ?_)
  have k := Nat.lt_mul_div_succ M hp
  obtain ⟨g, hg⟩ : ∃ g, hi = lo + g := ⟨hi - lo, by omega⟩
  rw [show hi - lo = g by omega]
  generalize M / hi = q at *
  have m1 : q * g ≤ lo * g := Nat.mul_le_mul_right g (by omega)
  have e1 : hi * (q + 1) = q * lo + lo + q * g + g := by rw [hg, Nat.add_mul, Nat.mul_add, Nat.mul_add, Nat.mul_comm lo q, Nat.mul_comm g q]; omega
  have e2 : (q + g + 1).succ * lo = q * lo + lo * g + lo + lo := by
    show (q + g + 1 + 1) * lo = _
    rw [Nat.add_mul, Nat.add_mul, Nat.add_mul, Nat.mul_comm g lo, Nat.one_mul]
  rw [e2]
  rw [e1] at k
  omega
theorem inv_near {e r al P G : Rat} (he : 1 ≤ e) (he2 : e ≤ Ex.t2 102) (hr : r * al = 1) (ha : 0 < al) (hP : 0 < P) (hd : Ex.Bdd ((1 / e - r) * P) G) (hG : G * Ex.t2 103 ≤ P) : al ≤ Ex.t2 103 ∧ Ex.Bdd ((e - al) * P) (G * Ex.t2 205) := by
  have i : e * (1 / e) = 1 := Ex.mul_div e 1 (by grind)
  have T := Ex.t2_pos 103
  have t2' : Ex.t2 103 = Ex.t2 102 + Ex.t2 102 := Ex.t2_succ 102
  have T2 := Ex.t2_pos 102
  have nG := Ex.Bdd_nn hd
  have hal : al ≤ Ex.t2 103 := by
    refine Rat.not_lt.1 fun h => ?_
    have a1 : 1 ≤ 1 / e * Ex.t2 102 := by
      have e0 : 0 ≤ 1 / e := Ex.div_nn (by decide) (by grind)
      have := Rat.mul_le_mul_of_nonneg_left he2 e0
      grind
    have rp : 0 < r := by
      rcases Rat.le_total (a := r) (b := 0) with g | g
      · have := Rat.mul_le_mul_of_nonneg_right g (Rat.le_of_lt ha)
        grind
      · by_cases z : r = 0
        · subst z; grind
        · grind
    have a2 : r * Ex.t2 103 < 1 := by
      have := Rat.mul_pos rp (show 0 < al - Ex.t2 103 by grind)
      grind
    obtain ⟨-, d2⟩ := hd
    have m := Rat.mul_le_mul_of_nonneg_right d2 (Rat.le_of_lt T)
    have a3 : 1 < (1 / e - r) * Ex.t2 103 := by
      rw [t2'] at a2 ⊢
      generalize 1 / e = y at *
      grind
    have m2 := Rat.mul_pos (show 0 < (1 / e - r) * Ex.t2 103 - 1 by grind) hP
    have e2 : ((1 / e - r) * Ex.t2 103 - 1) * P = (1 / e - r) * P * Ex.t2 103 - P := by grind
    rw [e2] at m2
    grind
  refine ⟨hal, ?_⟩
  have e3 : (e - al) * P = (1 / e - r) * P * -(e * al) := by
    have : (1 / e - r) * P * -(e * al) = (r * al) * e * P - e * (1 / e) * al * P := by grind
    rw [this, hr, i]; grind
  rw [e3]
  have t5 : Ex.t2 205 = Ex.t2 102 * Ex.t2 103 := Ex.t2_add 102 103
  have b1 : Ex.Bdd (-(e * al)) (Ex.t2 205) := by
    have n1 : 0 ≤ e * al := Rat.mul_nonneg (by grind) (Rat.le_of_lt ha)
    have m1 := Rat.mul_le_mul_of_nonneg_right he2 (Rat.le_of_lt ha)
    have m2 := Rat.mul_le_mul_of_nonneg_left hal (Rat.le_of_lt T2)
    have m3 := Rat.le_trans m1 m2
    rw [← t5] at m3
    constructor <;> grind
  exact Ex.Bdd_mul hd b1
theorem cert_neg {a b lo hi w p g s : Nat} {x : Rat} (ha : 0 < a) (hb : 0 < b) (hb2 : b ≤ 2 ^ 240) (hx : x * (b : Rat) = (a : Rat)) (hx2 : x ≤ 64) (hp : p ≤ 512) (hg : g ≤ 39000) (h0 : 2 ^ w ≤ lo) (h : lo < hi) (hG : hi ≤ lo + w * 2 ^ g)
    (hE : ∀ L, s ≤ L → Enc w lo hi (Ex.E x L)) (hw : 71000000 ≤ w) (hw2 : w ≤ 2 ^ 40) : 2 ^ (2 * w) / hi / 2 ^ (w - p) = (2 ^ (2 * w) / lo + 1 - 1) / 2 ^ (w - p) := by
  have PN : 0 < 2 ^ w := Nat.pow_pos (by omega)
  have gw : w * 2 ^ g ≤ 2 ^ w := by
    refine Nat.le_trans (Nat.mul_le_mul_right _ hw2) ?_
    rw [← Nat.pow_add]
    exact Nat.pow_le_pow_right (by omega) (by omega)
  obtain ⟨i1, i2, i3⟩ := inv_gapE (M := 2 ^ (2 * w)) (lo := lo) (hi := hi) PN (by rw [← Nat.pow_add]; congr 1; omega) h0 h (by omega)
  refine Classical.byContradiction fun hc => ?_
  obtain ⟨u, u0, u1, u2⟩ := cert_or (lo := 2 ^ (2 * w) / hi) (hi := 2 ^ (2 * w) / lo + 1) (by omega) hc
  obtain ⟨W, hW⟩ : ∃ k : Nat, k = 70000000 := ⟨_, rfl⟩
  obtain ⟨sv, hsv⟩ : ∃ k : Nat, k = 520 := ⟨_, rfl⟩
  have Pp := p2_pos p
  have P := p2_pos w
  have uR : (0 : Rat) < (u : Rat) := Ex.castlt u0
  obtain ⟨r, hr⟩ : ∃ r : Rat, r = (u : Rat) / p2 p := ⟨_, rfl⟩
  have ar : r * p2 p = (u : Rat) := by rw [hr]; exact Rat.div_mul_cancel (by grind)
  obtain ⟨al, hal⟩ : ∃ r : Rat, r = p2 p / (u : Rat) := ⟨_, rfl⟩
  have au : al * (u : Rat) = ((2 ^ p : Nat) : Rat) := by rw [hal]; exact Rat.div_mul_cancel (by grind)
  have a0 : 0 < al := by
    rw [hal, Rat.div_def]; exact Rat.mul_pos Pp (Rat.inv_pos.2 uR)
  have ra : r * al = 1 := by
    refine Ex.cancel_l (c := p2 p) (by grind) ?_
    have : p2 p * (r * al) = al * (r * p2 p) := by grind
    rw [this, ar, au, Rat.mul_one]
  have c := cast_p2 u w p (by omega)
  have ku : r * p2 w = ((u * 2 ^ (w - p) : Nat) : Rat) := by
    refine Ex.cancel_l (c := p2 p) (by grind) ?_
    rw [Rat.mul_comm, Rat.mul_comm (p2 p), c, ← ar]; grind
  have x0 : 0 ≤ x := by
    have bp : (0 : Rat) < (b : Rat) := Ex.castlt hb
    refine le_by bp ?_
    rw [hx, Rat.zero_mul]; exact nat_nonneg a
  have l1 : ((2 ^ (2 * w) / hi : Nat) : Rat) ≤ r * p2 w := by rw [ku]; exact Ex.castle u1
  have l2 : r * p2 w ≤ ((2 ^ (2 * w) / lo + 1 : Nat) : Rat) := by rw [ku]; exact Ex.castle (Nat.le_trans u2 (Nat.sub_le _ 1))
  have gp : 1 ≤ w * 2 ^ g := Nat.mul_pos (by omega) (Nat.pow_pos (by omega))
  have GG : 2 ^ (2 * w) / lo + 1 ≤ 2 ^ (2 * w) / hi + w * 2 ^ g * 2 ^ 2 := by omega
  have two : ∀ L, s + 1 ≤ L → al ≤ Ex.t2 103 ∧ Ex.Bdd ((Ex.E x L - al) * Ex.t2 W) 1 := by
    intro L hL
    obtain ⟨en, -⟩ := enc_inv (by omega) (hE L (by omega))
    have d := dist_bd en l1 l2 GG
    have z := size_W (w := w) (g := g) (r := 2 + 205) hW (by omega) hw hw2
    have ez : ((w * 2 ^ g * 2 ^ (2 + 205) : Nat) : Rat) = ((w * 2 ^ g * 2 ^ 2 : Nat) : Rat) * Ex.t2 205 := by
      have : w * 2 ^ g * 2 ^ (2 + 205) = w * 2 ^ g * 2 ^ 2 * 2 ^ 205 := by rw [Nat.pow_add 2 2, Nat.mul_assoc (w * 2 ^ g)]
      rw [this]; exact Ex.castmul _ _
    rw [ez] at z
    have nG := nat_nonneg (w * 2 ^ g * 2 ^ 2)
    have small : ((w * 2 ^ g * 2 ^ 2 : Nat) : Rat) * Ex.t2 103 ≤ p2 w := by
      have h1 : w * 2 ^ g * 2 ^ 2 * 2 ^ 103 ≤ 2 ^ w := by
        refine Nat.le_trans (Nat.mul_le_mul_right _ (Nat.mul_le_mul_right _ (Nat.mul_le_mul_right _ hw2))) ?_
        rw [← Nat.pow_add, ← Nat.pow_add, ← Nat.pow_add]
        exact Nat.pow_le_pow_right (by omega) (by omega)
      have e : ((w * 2 ^ g * 2 ^ 2 * 2 ^ 103 : Nat) : Rat) = ((w * 2 ^ g * 2 ^ 2 : Nat) : Rat) * Ex.t2 103 := Ex.castmul _ _
      rw [← e]; exact Ex.castle h1
    obtain ⟨n1, n2⟩ := inv_near (E_one x0 (by omega)) (E_big x0 hx2 L) ra a0 P d small
    exact ⟨n1, bd_less n2 z⟩
  have up : u ≤ 2 ^ p := by
    have e : 2 ^ w = 2 ^ p * 2 ^ (w - p) := by rw [← Nat.pow_add]; congr 1; omega
    have k : u * 2 ^ (w - p) ≤ 2 ^ p * 2 ^ (w - p) := by rw [← e]; omega
    exact Nat.le_of_mul_le_mul_right k (Nat.pow_pos (by omega))
  have up2 : 2 ^ p ≤ 2 ^ sv := Nat.pow_le_pow_right (by omega) (by omega)
  obtain ⟨K0, hK⟩ := Ex.exp_far (W := W) (by omega) ha hb hb2 hx hx2 hsv (v := u) (u := 2 ^ p) u0 (Nat.le_trans up up2) au a0 (two (s + 1) (Nat.le_refl _)).1
  exact hK (max K0 (s + 1)) (Nat.le_max_left _ _) (two _ (Nat.le_max_right _ _)).2
end Go.Proofs.YtecjelnpmcnbaaaGreat
namespace Go.Proofs.YtecjelnpmcnbaaaGreat
open Go.Ev
theorem least {P : Nat → Prop} {k : Nat} (h : P k) : ∃ j, P j ∧ j ≤ k ∧ ∀ i, i < j → ¬ P i := by
  induction k using Nat.strongRecOn with
  | _ k ih =>
    by_cases g : ∃ i, i < k ∧ P i
    · obtain ⟨i, hi, hp⟩ := g
      obtain ⟨j, h1, h2, h3⟩ := ih i hi hp
      exact ⟨j, h1, by omega, h3⟩
    · exact ⟨k, h, Nat.le_refl k, fun i hi hp => g ⟨i, hi, hp⟩⟩
theorem doubles {w0 M : Nat} (h0 : 0 < w0) (h : w0 ≤ M) : ∃ k, M ≤ w0 * 2 ^ k ∧ w0 * 2 ^ k < 2 * M := by
  have top : M ≤ w0 * 2 ^ M := Nat.le_trans (Nat.le_of_lt Nat.lt_two_pow_self) (Nat.le_mul_of_pos_left _ h0)
  obtain ⟨k, h1, -, h3⟩ := least (P := fun k => M ≤ w0 * 2 ^ k) top
  refine ⟨k, h1, ?_⟩
  cases k with
  | zero => rw [Nat.pow_zero, Nat.mul_one]; omega
  | succ k =>
    have := h3 k (Nat.lt_succ_self k)
    rw [Nat.pow_succ, ← Nat.mul_assoc]
    omega
section
variable {p sp M : Nat} {f : FuncId} {caps : List SV} {lo hi : Nat → Nat}
theorem certain_at (h0 : 0 < p + sp) (hM : p + sp ≤ M) (hc : ∀ w, M ≤ w → w < 2 * M → lo w / 2 ^ (w - p) = (hi w - 1) / 2 ^ (w - p)) :
    ∃ k, lo ((p + sp) * 2 ^ k) / 2 ^ ((p + sp) * 2 ^ k - p) = (hi ((p + sp) * 2 ^ k) - 1) / 2 ^ ((p + sp) * 2 ^ k - p) ∧ (p + sp) * 2 ^ k < 2 * M ∧ ∀ i, i < k → lo ((p + sp) * 2 ^ i) / 2 ^ ((p + sp) * 2 ^ i - p) ≠ (hi ((p + sp) * 2 ^ i) - 1) / 2 ^ ((p + sp) * 2 ^ i - p) := by
  obtain ⟨k0, a1, a2⟩ := doubles h0 hM
  obtain ⟨k, b1, b2, b3⟩ := least (P := fun k => lo ((p + sp) * 2 ^ k) / 2 ^ ((p + sp) * 2 ^ k - p) = (hi ((p + sp) * 2 ^ k) - 1) / 2 ^ ((p + sp) * 2 ^ k - p)) (hc _ a1 a2)
  refine ⟨k, b1, Nat.lt_of_le_of_lt (Nat.mul_le_mul_left _ (Nat.pow_le_pow_right (by omega) b2)) a2, b3⟩
set_option maxHeartbeats 1000000 in
theorem fix_CertainL (hsp : 0 < sp) (hM : p + sp ≤ M) (hM2 : M ≤ 200000000) (hp : p ≤ 10000) (hs : sp ≤ 10000)
    (hf : ∀ w : Nat, p + sp ≤ w → w < 2 * M → Go.Ev.Fn CX f (.int .i64 (w : Int) :: caps) (spanV (lo w) (hi w)))
    (hl : ∀ w : Nat, p + sp ≤ w → w < 2 * M → (lim (lo w)).length ≤ 50000000 ∧ (lim (hi w)).length ≤ 50000000 ∧ (lim (lo w / 2 ^ (w - p))).length ≤ 5000)
    (hc : ∀ w, M ≤ w → w < 2 * M → lo w / 2 ^ (w - p) = (hi w - 1) / 2 ^ (w - p)) :
    ∃ w, p + sp ≤ w ∧ w < 2 * M ∧ lo w / 2 ^ (w - p) = (hi w - 1) / 2 ^ (w - p) ∧
      Go.Ev.Fn CX 193 [.int .i64 (p : Int), .int .i64 (sp : Int), .fn f caps] (ballR (mkRat ((lo w / 2 ^ (w - p) : Nat) : Int) (2 ^ p)) (mkRat ((lo w / 2 ^ (w - p) + 1 : Nat) : Int) (2 ^ p))) := by
  obtain ⟨k, c1, c2, c3⟩ := certain_at (by omega) hM hc
  obtain ⟨W, hW⟩ : ∃ W, W = (p + sp) * 2 ^ k := ⟨_, rfl⟩
  have pk : ∀ i, p + sp ≤ (p + sp) * 2 ^ i := fun i => Nat.le_mul_of_pos_right _ (Nat.pow_pos (by omega))
  have mk : ∀ i, i ≤ k → (p + sp) * 2 ^ i ≤ W := fun i hi => by rw [hW]; exact Nat.mul_le_mul_left _ (Nat.pow_le_pow_right (by omega) hi)
  rw [← hW] at c1 c2
  refine ⟨W, by rw [hW]; exact pk k, c2, c1, ?_⟩
  obtain ⟨la, lb, lm⟩ := hl W (by rw [hW]; exact pk k) c2
  have hfW := hf W (by rw [hW]; exact pk k) c2
  have hpW : p < W := by have := pk k; omega
  have fl := fix_Floor (a := lo W) (b := hi W) (w := W) (p := p) (by omega) (by omega) hpW (by omega)
  rw [decide_eq_true c1] at fl
  have o := fix_One
  have l1 := lim_len1
  have sh := fix_shl (a := 1) (m := p) (by omega) (by omega)
  have lp := lim_len_shl (a := 1) (n := p)
  rw [Nat.one_mul] at sh lp
  have n1 := fix_Next (a := lo W / 2 ^ (W - p)) (by omega)
  have l2 := lim_len_add (a := lo W / 2 ^ (W - p)) (b := 1) (L := 5000) (by omega) (by omega)
  have r1 := rat_OfL (s := false) (n := lo W / 2 ^ (W - p)) (d := 2 ^ p) (by omega) (by omega)
  have r2 := rat_OfL (s := false) (n := lo W / 2 ^ (W - p) + 1) (d := 2 ^ p) (by omega) (by omega)
  rw [show sgn false (lo W / 2 ^ (W - p)) = ((lo W / 2 ^ (W - p) : Nat) : Int) from rfl] at r1
  rw [show sgn false (lo W / 2 ^ (W - p) + 1) = ((lo W / 2 ^ (W - p) + 1 : Nat) : Int) from rfl] at r2
  generalize mkRat ((lo W / 2 ^ (W - p) : Nat) : Int) (2 ^ p) = q1 at *
  generalize mkRat ((lo W / 2 ^ (W - p) + 1 : Nat) : Int) (2 ^ p) = q2 at *
  generalize lo W / 2 ^ (W - p) + 1 = a' at *
  generalize ha : lo W / 2 ^ (W - p) = a at *
  generalize 2 ^ p = P at *
  -- one round that is not the last
  have rd : ∀ i, i < k → ∃ x y : Nat, ∃ m : Nat, Go.Ev.Fn CX f (.int .i64 (((p + sp) * 2 ^ i : Nat) : Int) :: caps) (spanV x y) ∧ Go.Ev.Fn CX 222 [spanV x y, .int .i64 (((p + sp) * 2 ^ i : Nat) : Int), .int .i64 (p : Int)] (.tup [natV (lim m), .bool false]) := by
    intro i hi'
    have h1 := pk i
    have h2 := mk i (by omega)
    obtain ⟨xa, xb, -⟩ := hl ((p + sp) * 2 ^ i) h1 (by omega)
    have g := fix_Floor (a := lo ((p + sp) * 2 ^ i)) (b := hi ((p + sp) * 2 ^ i)) (w := (p + sp) * 2 ^ i) (p := p) (by omega) (by omega) (by omega) (by omega)
    rw [decide_eq_false (c3 i hi')] at g
    exact ⟨_, _, _, hf _ h1 (by omega), g⟩
  have dbl : ∀ i : Nat, i < k → (p + sp) * 2 ^ i * 2 = (p + sp) * 2 ^ (i + 1) := fun i _ => by rw [Nat.pow_succ, Nat.mul_assoc]
  clear hc hl hf c3 c1 la lb lm l2 lp l1
  refine Go.Ev.Fn.intro (fn := Tryz.f193) (body := (Tryz.f193).body.get!) (by kernel_rfl) (by kernel_rfl) (by kernel_rfl) (fun _ => rfl) (Nat.le_of_ble_eq_true (by kernel_rfl)) ?_; unfold Tryz.f193; simp only [Option.get!_some]
  repeat (first | (simp only [go_sem]) | (simp (disch := (first | omega | (simp only [AL, List.length_map]; omega))) only [AR, AL, ifT, ifF, take_all, List.length_cons, List.length_nil, Int.reduceToNat, Int.reducePow, Nat.reducePow]) | (refine wk_intro (by kernel_rfl) ?_))
  refine vp_loop_inv (fun s => s.tmp 0 = .sv (.int .i64 (p : Int)) ∧ s.tmp 2 = .sv (.fn f caps) ∧ s.tmp 6 = .ptr 6 0 0 ∧ s.obj 6 0 = some [.bool false, .sl 0 [], .sl 0 [], .bool false, .sl 0 [], .sl 0 []] ∧ ∃ i : Nat, i ≤ k ∧ s.tmp 7 = .sv (.int .i64 (((p + sp) * 2 ^ i : Nat) : Int)))
    (fun s => match s.tmp 7 with | .sv (.int _ j) => 400000000 - j.toNat | _ => 0) ⟨rfl, rfl, rfl, rfl, 0, by omega, by rw [Nat.pow_zero, Nat.mul_one]; rfl⟩ ?_
  rintro s ⟨i0, i2, i6, o6, i, hi', i7⟩
  by_cases e : i = k
  · subst e
    rw [← hW] at i7
    clear rd dbl
    repeat (first | (simp only [go_sem, i0, i2, i6, o6, i7]) | (simp (disch := (first | omega | (simp only [AL, List.length_map]; omega))) only [AR, AL, ifT, ifF, take_all, List.length_cons, List.length_nil, Int.reduceToNat, Int.reducePow, Nat.reducePow, i0, i2, i6, o6, i7]) | (refine wk_intro (by kernel_rfl) ?_) | (refine vf_of (by first | exact hfW | exact fl | exact o | exact sh | exact r1 | exact n1 | exact r2) ?_))
  · obtain ⟨x, y, m, g1, g2⟩ := rd i (by omega)
    have h1 := mk (i + 1) (by omega)
    have h3 := pk i
    have h2 := dbl i (by omega)
    have e2 : (((p + sp) * 2 ^ (i + 1) : Nat) : Int) = (((p + sp) * 2 ^ i : Nat) : Int) * 2 := by rw [← h2]; exact Int.natCast_mul _ _
    clear rd dbl hfW fl
    generalize hv : (p + sp) * 2 ^ (i + 1) = v at *
    generalize (p + sp) * 2 ^ i = u at *
    repeat (first | (simp only [go_sem, i0, i2, i6, o6, i7]) | (simp (disch := (first | omega | (simp only [AL, List.length_map]; omega))) only [AR, AL, ifT, ifF, take_all, List.length_cons, List.length_nil, Int.reduceToNat, Int.reducePow, Nat.reducePow, i0, i2, i6, o6, i7]) | (refine wk_intro (by kernel_rfl) ?_) | (refine vf_of (by first | exact g1 | exact g2) ?_))
    exact ⟨⟨i + 1, by omega, by rw [hv, e2]⟩, by omega⟩
end
end Go.Proofs.YtecjelnpmcnbaaaGreat
namespace Go.Proofs.YtecjelnpmcnbaaaGreat
open Go.Ev
theorem lim_len_pw {n w : Nat} (h : n < 2 ^ w) : (lim n).length ≤ w / 32 + 1 := by
  refine lim_len_lt (Nat.lt_of_lt_of_le h ?_)
  rw [show (4294967296 : Nat) = 2 ^ 32 from rfl, ← Nat.pow_mul]
  exact Nat.pow_le_pow_right (by omega) (by omega)
set_option maxHeartbeats 1000000 in
theorem exps_row {w Y A B : Nat} (hw : 64 ≤ w) (hw2 : w ≤ 400000000) (hY : Y + 1 ≤ 2 ^ (w - 7)) (h : eRow w Y (w / 7 + 3) 1 (2 ^ w) (2 ^ w + 1) (2 ^ w) (2 ^ w + 1) = some (A, B)) :
    Go.Ev.Fn CX 224 [spanV Y (Y + 1), .int .i64 (w : Int)] (spanV A B) := by
  have un := fix_Unit (w := w) (by omega)
  have lw : w < 2 ^ w := Nat.lt_two_pow_self
  have e1 : 2 ^ (w + 1) = 2 ^ w * 2 := Nat.pow_succ _ _
  have e2 : 2 ^ (w + 2) = 2 ^ w * 4 := Nat.pow_add _ _ _
  have hYw : 2 ^ (w - 7) ≤ 2 ^ w := Nat.pow_le_pow_right (by omega) (by omega)
  have lY := lim_len_pw (n := Y) (w := w + 2) (by omega)
  have lY1 := lim_len_pw (n := Y + 1) (w := w + 2) (by omega)
  have i0 := eInv_0 w
  have lens := fun (n t1 t2 a1 a2 : Nat) (hn : n ≤ w / 7 + 4) (h : eInv w n t1 t2 a1 a2) => (show (lim t1).length ≤ 13000000 ∧ (lim t2).length ≤ 13000000 ∧ (lim a1).length ≤ 13000000 ∧ (lim a2).length ≤ 13000000 from by
    obtain ⟨q1, q2, q3, q4, q5, q6, q7, q8⟩ := h
    have a := lim_len_pw (n := t1) (w := w + 2) (by omega)
    have b := lim_len_pw (n := t2) (w := w + 2) (by omega)
    have c := lim_len_pw (n := a1) (w := w + 2) (by omega)
    have d := lim_len_pw (n := a2) (w := w + 2) (by omega)
    exact ⟨by omega, by omega, by omega, by omega⟩)
  have step := fun (n t1 t2 a1 a2 : Nat) (h : eInv w n t1 t2 a1 a2) => eInv_step (Y := Y) hw hY h
  generalize hP : 2 ^ w = P at un h i0
  clear e1 e2 lw
  refine Go.Ev.Fn.intro (fn := Tryz.f224) (body := (Tryz.f224).body.get!) (by kernel_rfl) (by kernel_rfl) (by kernel_rfl) (fun _ => rfl) (Nat.le_of_ble_eq_true (by kernel_rfl)) ?_; unfold Tryz.f224; simp only [Option.get!_some]
  repeat (first | (simp only [go_sem]) | (simp (disch := (first | omega | (simp only [AL, List.length_map]; omega))) only [AR, AL, ifT, ifF, take_all, List.length_cons, List.length_nil, Int.reduceToNat, Int.reducePow, Nat.reducePow]) | (refine wk_intro (by kernel_rfl) ?_) | (refine vf_of (by first | exact un) ?_))
  refine vp_loop_inv (fun s => s.tmp 1 = .sv (.int .i64 (w : Int)) ∧ s.tmp 2 = .ptr 2 0 0 ∧ s.obj 2 0 = some [natV (lim Y), natV (lim (Y + 1))] ∧ s.tmp 4 = .ptr 4 0 0 ∧ s.obj 4 0 = some [.sl 0 [], .sl 0 []] ∧ s.tmp 5 = .ptr 5 0 0 ∧ s.tmp 6 = .ptr 6 0 0 ∧
      ∃ f n t1 t2 a1 a2 : Nat, s.tmp 7 = .sv (.int .u64 (n : Int)) ∧ f + n = w / 7 + 4 ∧ eRow w Y f n t1 t2 a1 a2 = some (A, B) ∧ s.obj 6 0 = some [natV (lim t1), natV (lim t2)] ∧ s.obj 5 0 = some [natV (lim a1), natV (lim a2)] ∧ eInv w n t1 t2 a1 a2)
    (fun s => match s.tmp 7 with | .sv (.int _ i) => w / 7 + 5 - i.toNat | _ => 0) ⟨rfl, rfl, rfl, rfl, rfl, rfl, rfl, w / 7 + 3, 1, P, P + 1, P, P + 1, rfl, by omega, h, rfl, rfl, i0⟩ ?_
  rintro s ⟨i1, i2, o2, i4, o4, i5, i6, f, n, t1, t2, a1, a2, i7, hfn, hgo, o6, o5, hok⟩
  obtain ⟨lt1, lt2, la1, la2⟩ := lens n t1 t2 a1 a2 (by omega) hok
  have hn1 := hok.1
  have st := step n t1 t2 a1 a2 hok
  have sm := fix_Small (a := t1) (b := t2) (by omega) (k := 1) (by omega)
  cases f with
  | zero => simp only [eRow] at hgo; cases hgo
  | succ f =>
    rw [eRow] at hgo
    by_cases hs : t2 < 2
    · rw [if_pos hs] at hgo
      simp only [Option.some.injEq, Prod.mk.injEq] at hgo
      obtain ⟨rfl, rfl⟩ := hgo
      rw [decide_eq_true (show t2 < 2 ^ 1 from hs)] at sm
      have wd := fix_Wider (a := a1) (b := a2) (n := 1) (by omega) (by omega) (by omega)
      clear step lens st h un
      repeat (first | (simp only [go_sem, i1, i2, o2, i4, o4, i5, i6, i7, o5, o6, Bool.not_true]) | (simp (disch := (first | omega | (simp only [AL, List.length_map]; omega))) only [AR, AL, ifT, ifF, take_all, List.length_cons, List.length_nil, Int.reduceToNat, Int.reducePow, Nat.reducePow, i1, i2, o2, i4, o4, i5, i6, i7, o5, o6, Bool.not_true]) | (refine wk_intro (by kernel_rfl) ?_) | (refine vf_of (by first | exact sm | exact wd) ?_))
    · rw [if_neg hs] at hgo
      rw [decide_eq_false (show ¬ t2 < 2 ^ 1 from hs)] at sm
      obtain ⟨lu1, lu2, lb1, lb2⟩ := lens (n + 1) _ _ _ _ (by omega) st
      have mu := fix_Mul (a := t1) (b := t2) (c := Y) (d := Y + 1) (w := w) (by omega) (by omega) (by omega) (by omega) (by omega) (by omega)
      have o1 := fix_One
      have q1 := nat_Of n (by omega)
      have l1 := lim_len1
      have lq : (lim n).length ≤ 2 := lim_len_lt (by omega)
      have z1 := lim_len_mul (a := t1) (b := Y)
      have z2 := lim_len_mul (a := t2) (b := Y + 1)
      have z3 := lim_len_mono (Nat.div_le_self (t1 * Y) (2 ^ w))
      have z4 := lim_len_add (a := t2 * (Y + 1) / 2 ^ w) (b := 1) (L := 26000000) (Nat.le_trans (lim_len_mono (Nat.div_le_self (t2 * (Y + 1)) (2 ^ w))) (by omega)) (by omega)
      have ti := fix_Times (a := t1 * Y / 2 ^ w) (b := t2 * (Y + 1) / 2 ^ w + 1) (n := 1) (d := n) (by omega) (by omega) (by omega) (by omega) (by omega)
      generalize t1 * Y / 2 ^ w * 1 / n = u1 at *
      generalize (t2 * (Y + 1) / 2 ^ w + 1) * 1 / n + 1 = u2 at *
      generalize t1 * Y / 2 ^ w = v1 at *
      generalize t2 * (Y + 1) / 2 ^ w + 1 = v2 at *
      have ad := fix_Add (a := a1) (b := a2) (c := u1) (d := u2) (by omega) (by omega) (by omega) (by omega)
      clear step lens h un
      repeat (first | (simp only [go_sem, i1, i2, o2, i4, o4, i5, i6, i7, o5, o6, Bool.not_false]) | (simp (disch := (first | omega | (simp only [AL, List.length_map]; omega))) only [AR, AL, ifT, ifF, take_all, List.length_cons, List.length_nil, Int.reduceToNat, Int.reducePow, Nat.reducePow, i1, i2, o2, i4, o4, i5, i6, i7, o5, o6, Bool.not_false]) | (refine wk_intro (by kernel_rfl) ?_) | (refine vf_of (by first | exact sm | exact mu | exact o1 | exact q1 | exact ti | exact ad) ?_))
      exact ⟨⟨f, n + 1, u1, u2, a1 + u1, a2 + u2, rfl, by omega, hgo, rfl, rfl, st⟩, by omega⟩
def nearS (n d w : Nat) (R : Nat × Nat) : Prop := ∃ A B : Nat, eRow w (n * 2 ^ w / (d * 2 ^ 14)) (w / 7 + 3) 1 (2 ^ w) (2 ^ w + 1) (2 ^ w) (2 ^ w + 1) = some (A, B) ∧ A ≤ B ∧ 2 ^ w ≤ A ∧ B < 2 ^ (w + 2) ∧ R = sqs w 14 A B
def nearR (neg : Bool) (w : Nat) (R : Nat × Nat) : Nat × Nat := if neg then (2 ^ (2 * w) / R.2, 2 ^ (2 * w) / R.1 + 1) else R
set_option maxHeartbeats 1000000 in
theorem exps_near {s : Bool} {n d w : Nat} {R : Nat × Nat} (hd : 0 < d) (h : n ≤ 64 * d) (hw : 160 ≤ w) (hw2 : w ≤ 200000000) (ln : (lim n).length ≤ 1000) (ld : (lim d).length ≤ 1000) (hR : nearS n d w R) :
    Go.Ev.Fn CX 195 [ratV s (lim n) (lim d), .int .i64 (w : Int)] (spanV (nearR s w R).1 (nearR s w R).2) := by
  obtain ⟨A, B, hr, hAB, hA, hB, rfl⟩ := hR
  have sh := fix_shl (a := d) (m := 14) (by omega) (by omega)
  have ls := lim_len_shl (a := d) (n := 14)
  have dp : 0 < d * 2 ^ 14 := by omega
  have of := fix_Of (n := n) (d := d * 2 ^ 14) (w := w) (by omega) (by omega) (by omega) (by omega)
  have hY : n * 2 ^ w / (d * 2 ^ 14) + 1 ≤ 2 ^ (w - 7) := by
    have e8 : 2 ^ w = 2 ^ (w - 8) * 256 := by rw [show (256 : Nat) = 2 ^ 8 from rfl, ← Nat.pow_add]; congr 1; omega
    have e7 : 2 ^ (w - 7) = 2 ^ (w - 8) * 2 := by rw [← Nat.pow_succ]; congr 1; omega
    have p8 : 0 < 2 ^ (w - 8) := Nat.pow_pos (by omega)
    have Yle : n * 2 ^ w / (d * 2 ^ 14) ≤ 2 ^ (w - 8) := by
      refine (Nat.div_le_iff_le_mul dp).2 ?_
      have m := Nat.mul_le_mul_right (2 ^ w) h
      have k : 64 * d * 2 ^ w = 2 ^ (w - 8) * (d * 2 ^ 14) := by
        rw [e8]; generalize 2 ^ (w - 8) = z; rw [show (2 : Nat) ^ 14 = 16384 from rfl]; grind
      omega
    omega
  have rw1 := exps_row (w := w) (by omega) (by omega) hY hr
  generalize hY' : n * 2 ^ w / (d * 2 ^ 14) = Y at *
  have e14 : d * 2 ^ 14 = d * 16384 := rfl
  generalize d * 2 ^ 14 = d' at *
  clear hr hY ln ld ls
  obtain ⟨c14, hc14⟩ : ∃ c : Nat, c = 32768 := ⟨_, rfl⟩
  have fin := sqs_ok (w := w) 14 A B 2 (B - A + 1) hA hAB hB (by omega) (by omega)
  obtain ⟨R1, R2, hRR⟩ : ∃ R1 R2 : Nat, sqs w 14 A B = (R1, R2) := ⟨_, _, rfl⟩
  rw [hRR] at fin ⊢
  obtain ⟨f1, f2, f3, -⟩ := fin
  rw [show 2 * 2 ^ 14 = c14 by omega] at f3
  simp only at f1 f2 f3
  have Pw : 0 < 2 ^ w := Nat.pow_pos (by omega)
  have lR1 := lim_len_pw (n := R1) (w := w + c14) (by omega)
  have lR2 := lim_len_pw (n := R2) (w := w + c14) (by omega)
  have inv := fix_Inverse (a := R1) (b := R2) (w := w) (by omega) (by omega) (by omega) (by omega) (by omega)
  have loop : ∀ (k lo hi c : Nat), 2 ^ w ≤ lo → lo ≤ hi → hi < 2 ^ (w + c) → c * 2 ^ k ≤ c14 → 1 ≤ k → (Go.Ev.Fn CX 197 [spanV lo hi, spanV lo hi, .int .i64 (w : Int)] (spanV (lo * lo / 2 ^ w) (hi * hi / 2 ^ w + 1)) ∧ 2 ^ w ≤ lo * lo / 2 ^ w ∧ lo * lo / 2 ^ w ≤ hi * hi / 2 ^ w + 1 ∧ hi * hi / 2 ^ w + 1 < 2 ^ (w + (c + c)) ∧ (c + c) * 2 ^ (k - 1) ≤ c14) := by
    intro k lo hi c h1 h2 h3 h4 h5
    obtain ⟨s1, s2, s3, -⟩ := sq_step h1 h2 h3 (G := hi - lo + 1) (by omega) (by omega)
    have hc : c ≤ c14 := Nat.le_trans (Nat.le_mul_of_pos_right _ (Nat.pow_pos (by omega))) h4
    have l1 := lim_len_pw (n := lo) (w := w + c) (by omega)
    have l2 := lim_len_pw (n := hi) (w := w + c) h3
    have mu := fix_Mul (a := lo) (b := hi) (c := lo) (d := hi) (w := w) (by omega) (by omega) (by omega) (by omega) (by omega) (by omega)
    refine ⟨mu, s1, s2, s3, ?_⟩
    have e : (c + c) * 2 ^ (k - 1) = c * 2 ^ k := by
      obtain ⟨j, rfl⟩ : ∃ j, k = j + 1 := ⟨k - 1, by omega⟩
      rw [Nat.add_sub_cancel, Nat.pow_succ, ← Nat.mul_two, Nat.mul_assoc, Nat.mul_comm 2]
    rw [e]; exact h4
  refine Go.Ev.Fn.intro (fn := Tryz.f195) (body := (Tryz.f195).body.get!) (by kernel_rfl) (by kernel_rfl) (by kernel_rfl) (fun _ => rfl) (Nat.le_of_ble_eq_true (by kernel_rfl)) ?_; unfold Tryz.f195; simp only [Option.get!_some]
  repeat (first | (simp only [go_sem]) | (simp (disch := (first | omega | (simp only [AL, List.length_map]; omega))) only [AR, AL, ifT, ifF, take_all, List.length_cons, List.length_nil, Int.reduceToNat, Int.reducePow, Nat.reducePow]) | (refine wk_intro (by kernel_rfl) ?_) | (refine vp_draw (id := 1) (l := [10, 8, 11]) (by kernel_rfl) ?_) | (refine vf_of (by first | exact sh | exact of | exact rw1) ?_))
  refine vp_loop_inv (fun s' => s'.tmp 1 = .sv (.int .i64 (w : Int)) ∧ s'.tmp 2 = .ptr 2 0 0 ∧ s'.obj 2 0 = some [.bool s, natV (lim n), natV (lim d)] ∧ s'.tmp 4 = .ptr 4 0 0 ∧ s'.obj 4 0 = some [.sl 0 [], .sl 0 []] ∧ s'.tmp 6 = .ptr 6 0 0 ∧
      ∃ k lo hi c : Nat, s'.tmp 17 = .sv (.int .i64 ((14 - k : Nat) : Int)) ∧ k ≤ 14 ∧ s'.obj 6 0 = some [natV (lim lo), natV (lim hi)] ∧ sqs w k lo hi = (R1, R2) ∧ 2 ^ w ≤ lo ∧ lo ≤ hi ∧ hi < 2 ^ (w + c) ∧ c * 2 ^ k ≤ c14)
    (fun s' => match s'.tmp 17 with | .sv (.int _ i) => 15 - i.toNat | _ => 0) ⟨rfl, rfl, rfl, rfl, rfl, rfl, 14, A, B, 2, rfl, by omega, rfl, hRR, hA, hAB, hB, by omega⟩ ?_
  rintro s' ⟨i1, i2, o2, i4, o4, i6, k, lo, hi, c, i17, hk, o6, hsq, g1, g2, g3, g4⟩
  cases k with
  | zero =>
    have hsq' : (lo, hi) = (R1, R2) := hsq
    simp only [Prod.mk.injEq] at hsq'
    obtain ⟨rfl, rfl⟩ := hsq'
    clear loop
    cases s with
    | true =>
      show _
      unfold nearR
      rw [if_pos rfl]
      repeat (first | (simp only [go_sem, i1, i2, o2, i4, o4, i6, i17, o6]) | (simp (disch := (first | omega | (simp only [AL, List.length_map]; omega))) only [AR, AL, ifT, ifF, take_all, List.length_cons, List.length_nil, Int.reduceToNat, Int.reducePow, Nat.reducePow, i1, i2, o2, i4, o4, i6, i17, o6]) | (refine wk_intro (by kernel_rfl) ?_) | (refine vp_draw (id := 1) (l := [10, 8, 11]) (by kernel_rfl) ?_) | (refine vf_of (by first | exact inv) ?_))
    | false =>
      unfold nearR
      rw [if_neg (by simp)]
      repeat (first | (simp only [go_sem, i1, i2, o2, i4, o4, i6, i17, o6]) | (simp (disch := (first | omega | (simp only [AL, List.length_map]; omega))) only [AR, AL, ifT, ifF, take_all, List.length_cons, List.length_nil, Int.reduceToNat, Int.reducePow, Nat.reducePow, i1, i2, o2, i4, o4, i6, i17, o6]) | (refine wk_intro (by kernel_rfl) ?_) | (refine vp_draw (id := 1) (l := [10, 8, 11]) (by kernel_rfl) ?_))
  | succ k =>
    obtain ⟨mu, s1, s2, s3, s4⟩ := loop (k + 1) lo hi c g1 g2 g3 g4 (by omega)
    rw [Nat.add_sub_cancel] at s4
    have hsq' : sqs w k (lo * lo / 2 ^ w) (hi * hi / 2 ^ w + 1) = (R1, R2) := hsq
    clear loop hsq
    generalize lo * lo / 2 ^ w = lo' at *
    generalize hi * hi / 2 ^ w + 1 = hi' at *
    repeat (first | (simp only [go_sem, i1, i2, o2, i4, o4, i6, i17, o6]) | (simp (disch := (first | omega | (simp only [AL, List.length_map]; omega))) only [AR, AL, ifT, ifF, take_all, List.length_cons, List.length_nil, Int.reduceToNat, Int.reducePow, Nat.reducePow, i1, i2, o2, i4, o4, i6, i17, o6]) | (refine wk_intro (by kernel_rfl) ?_) | (refine vp_draw (id := 1) (l := [10, 8, 11]) (by kernel_rfl) ?_) | (refine vf_of (by first | exact mu) ?_))
    exact ⟨⟨k, lo', hi', c + c, by congr 2; omega, by omega, rfl, hsq', s1, s2, s3, s4⟩, by omega⟩
end Go.Proofs.YtecjelnpmcnbaaaGreat
namespace Go.Proofs.YtecjelnpmcnbaaaGreat
open Go.Ev
def evX (x : Rat) (L : Nat) : Rat := if x < 0 then 1 / Ex.E (-x) L else Ex.E x L
def nearF (n d w : Nat) : Nat × Nat := match eRow w (n * 2 ^ w / (d * 2 ^ 14)) (w / 7 + 3) 1 (2 ^ w) (2 ^ w + 1) (2 ^ w) (2 ^ w + 1) with
  | some (A, B) => sqs w 14 A B
  | none => (0, 0)
theorem nearF_ok {n d w g c : Nat} (hg : g = 32794) (hc : c = 32768) (hd : 0 < d) (h : n ≤ 64 * d) (hw : 160 ≤ w) :
    nearS n d w (nearF n d w) ∧ 2 ^ w ≤ (nearF n d w).1 ∧ (nearF n d w).1 < (nearF n d w).2 ∧ (nearF n d w).2 < 2 ^ (w + c) ∧ (nearF n d w).2 ≤ (nearF n d w).1 + w * 2 ^ g ∧
      ∀ x : Rat, x * (d : Rat) = (n : Rat) → ∃ s, ∀ L, s ≤ L → Enc w (nearF n d w).1 (nearF n d w).2 (Ex.E x L) := by
  obtain ⟨A, B, r1, r2, r3, r4, r5, r6, r7, r8, r9⟩ := near_ok hg hc hd h hw
  have e : nearF n d w = sqs w 14 A B := by unfold nearF; rw [r1]
  rw [e]
  have strict : ∀ (k lo hi : Nat), lo ≤ hi → (sqs w (k + 1) lo hi).1 < (sqs w (k + 1) lo hi).2 := by
    intro k
    induction k with
    | zero =>
      intro lo hi h
      show lo * lo / 2 ^ w < hi * hi / 2 ^ w + 1
      exact Nat.lt_succ_of_le (Nat.div_le_div_right (Nat.mul_le_mul h h))
    | succ k ih =>
      intro lo hi h
      exact ih _ _ (Nat.le_succ_of_le (Nat.div_le_div_right (Nat.mul_le_mul h h)))
  exact ⟨⟨A, B, r1, r2, r3, r4, rfl⟩, r5, strict 13 A B r2, r7, r8, r9⟩
theorem exps_Exp1 {s : Bool} {n d : List Nat} {w : Nat} {r1 r2 : Nat} (h : Go.Ev.Fn CX 195 [ratV s n d, .int .i64 (w : Int)] (spanV r1 r2)) :
    Go.Ev.Fn CX 194 [.int .i64 (w : Int), .mem [.bool s, natV n, natV d]] (spanV r1 r2) := by
  refine Go.Ev.Fn.intro (fn := Tryz.f194) (body := (Tryz.f194).body.get!) (by kernel_rfl) (by kernel_rfl) (by kernel_rfl) (fun _ => rfl) (Nat.le_of_ble_eq_true (by kernel_rfl)) ?_; unfold Tryz.f194; simp only [Option.get!_some]
  repeat (first | (simp only [go_sem]) | (simp (disch := (first | omega | (simp only [AL, List.length_map]; omega))) only [AR, AL, ifT, ifF, take_all, List.length_cons, List.length_nil, Int.reduceToNat, Int.reducePow, Nat.reducePow]) | (refine wk_intro (by kernel_rfl) ?_) | (refine vf_of (by first | exact h) ?_))
theorem neg_numX {x : Rat} : decide (x.num < 0) = decide (x < 0) := by
  have h := Rat.num_nonneg (q := x)
  refine decide_eq_decide.2 ⟨fun g => ?_, fun g => ?_⟩
  · have : ¬ 0 ≤ x := fun k => absurd (h.2 k) (by omega)
    grind
  · rcases Int.lt_or_le x.num 0 with k | k
    · exact k
    · exact absurd (h.1 k) (by grind)
section
variable {v : SV} {x : Rat} {L P : Nat} {pI : Int}
theorem exp_end {n d : Nat} {neg : Bool} (hn0 : 0 < n) (hd : 0 < d) (h : n ≤ 64 * d) (hd2 : d ≤ 2 ^ 240) (hP : P ≤ 512) (ln : (lim n).length ≤ 1000) (ld : (lim d).length ≤ 1000) :
    ∃ m s0 : Nat, (lim m).length ≤ 5000 ∧ Go.Ev.Fn CX 193 [.int .i64 (P : Int), .int .i64 160, .fn 194 [.mem [.bool neg, natV (lim n), natV (lim d)]]] (ballR (mkRat (m : Int) (2 ^ P)) (mkRat ((m + 1 : Nat) : Int) (2 ^ P))) ∧
      ∀ x : Rat, x * (d : Rat) = (n : Rat) → ∃ s0, ∀ L, s0 ≤ L → Enc P m (m + 1) (if neg then 1 / Ex.E x L else Ex.E x L) := by
  obtain ⟨g, hg⟩ : ∃ g : Nat, g = 32794 := ⟨_, rfl⟩
  obtain ⟨c, hc⟩ : ∃ g : Nat, g = 32768 := ⟨_, rfl⟩
  have ok := fun w (hw : 160 ≤ w) => nearF_ok (n := n) (d := d) (w := w) hg hc hd h hw
  have dR : (0 : Rat) < (d : Rat) := by exact_mod_cast hd
  obtain ⟨q, hq⟩ : ∃ q : Rat, q = (n : Rat) / (d : Rat) := ⟨_, rfl⟩
  have qd : q * (d : Rat) = (n : Rat) := by rw [hq]; exact Rat.div_mul_cancel (by grind)
  have q64 : q ≤ 64 := by
    refine le_by dR ?_
    rw [qd]
    have : ((n : Nat) : Rat) ≤ ((64 * d : Nat) : Rat) := Ex.castle h
    rw [Ex.castmul] at this; exact this
  have cert : ∀ w, 71000000 ≤ w → w < 2 * 71000000 → (nearR neg w (nearF n d w)).1 / 2 ^ (w - P) = ((nearR neg w (nearF n d w)).2 - 1) / 2 ^ (w - P) := by
    intro w hw hw2
    obtain ⟨-, o1, o2, o3, o4, o5⟩ := ok w (by omega)
    obtain ⟨s, hs⟩ := o5 q qd
    have w40 : w ≤ 2 ^ 40 := by omega
    cases neg with
    | false =>
      unfold nearR
      rw [if_neg (by simp)]
      exact cert_pos hn0 hd hd2 qd q64 hP (by omega) o2 o4 hs hw w40
    | true =>
      unfold nearR
      rw [if_pos rfl]
      exact cert_neg hn0 hd hd2 qd q64 hP (by omega) o1 o2 o4 hs hw w40
  have size : ∀ w, 160 ≤ w → w < 2 * 71000000 → P ≤ w → (nearR neg w (nearF n d w)).1 < 2 ^ (w + c) ∧ (nearR neg w (nearF n d w)).2 < 2 ^ (w + c) := by
    intro w hw hw2 hPw
    obtain ⟨-, o1, o2, o3, o4, -⟩ := ok w hw
    cases neg with
    | false =>
      unfold nearR
      rw [if_neg (by simp)]
      exact ⟨by omega, o3⟩
    | true =>
      unfold nearR
      rw [if_pos rfl]
      have Pw : 0 < 2 ^ w := Nat.pow_pos (by omega)
      have e2 : 2 ^ (2 * w) = 2 ^ w * 2 ^ w := by rw [← Nat.pow_add]; congr 1; omega
      have big : 2 ^ w * 4 ≤ 2 ^ (w + c) := by
        rw [show (4 : Nat) = 2 ^ 2 from rfl, ← Nat.pow_add]
        exact Nat.pow_le_pow_right (by omega) (by omega)
      have one : ∀ z : Nat, 2 ^ w ≤ z → 2 ^ (2 * w) / z ≤ 2 ^ w := by
        intro z hz
        refine (Nat.div_le_iff_le_mul (by omega)).2 ?_
        rw [e2]
        have := Nat.mul_le_mul_left (2 ^ w) hz
        omega
      have a := one (nearF n d w).2 (by omega)
      have b := one (nearF n d w).1 o1
      constructor
      · show 2 ^ (2 * w) / (nearF n d w).2 < _
        omega
      · show 2 ^ (2 * w) / (nearF n d w).1 + 1 < _
        omega
  obtain ⟨w, w1, w2, w3, fn⟩ := fix_CertainL (p := P) (sp := 160) (M := 71000000) (f := 194) (caps := [.mem [.bool neg, natV (lim n), natV (lim d)]]) (lo := fun w => (nearR neg w (nearF n d w)).1) (hi := fun w => (nearR neg w (nearF n d w)).2) (by omega) (by omega) (by omega) (by omega) (by omega)
    (fun w hw hw2 => exps_Exp1 (exps_near hd h (by omega) (by omega) ln ld (ok w (by omega)).1))
    (fun w hw hw2 => by
      obtain ⟨z1, z2⟩ := size w (by omega) hw2 (by omega)
      have a := lim_len_pw z1
      have b := lim_len_pw z2
      have m : (nearR neg w (nearF n d w)).1 / 2 ^ (w - P) < 2 ^ (P + c) := by
        refine (Nat.div_lt_iff_lt_mul (Nat.pow_pos (by omega))).2 ?_
        rw [← Nat.pow_add, show P + c + (w - P) = w + c by omega]; exact z1
      have l := lim_len_pw m
      exact ⟨by omega, by omega, by omega⟩)
    cert
  obtain ⟨z1, -⟩ := size w (by omega) w2 (by omega)
  obtain ⟨-, o1, o2, o3, o4, o5⟩ := ok w (by omega)
  obtain ⟨m, hm⟩ : ∃ m, m = (nearR neg w (nearF n d w)).1 / 2 ^ (w - P) := ⟨_, rfl⟩
  have lm : m < 2 ^ (P + c) := by
    rw [hm]
    refine (Nat.div_lt_iff_lt_mul (Nat.pow_pos (by omega))).2 ?_
    rw [← Nat.pow_add, show P + c + (w - P) = w + c by omega]; exact z1
  have ll := lim_len_pw lm
  refine ⟨m, 0, by omega, by rw [hm]; exact fn, fun x hx => ?_⟩
  obtain ⟨s0, hs⟩ := o5 x hx
  refine ⟨s0, fun L hL => ?_⟩
  have en : Enc w (nearR neg w (nearF n d w)).1 (nearR neg w (nearF n d w)).2 (if neg then 1 / Ex.E x L else Ex.E x L) := by
    cases neg with
    | false =>
      unfold nearR
      rw [if_neg (by simp), if_neg (by simp)]
      exact hs L hL
    | true =>
      unfold nearR
      rw [if_pos rfl, if_pos rfl]
      exact (enc_inv (by have : 0 < 2 ^ w := Nat.pow_pos (by omega); omega) (hs L hL)).1
  have pos2 : 0 < (nearR neg w (nearF n d w)).2 := by
    cases neg with
    | false => unfold nearR; rw [if_neg (by simp)]; omega
    | true => unfold nearR; rw [if_pos rfl]; exact Nat.succ_pos _
  have w3' : m = ((nearR neg w (nearF n d w)).2 - 1) / 2 ^ (w - P) := by rw [hm]; exact w3
  generalize (if neg then 1 / Ex.E x L else Ex.E x L) = z at *
  generalize (nearR neg w (nearF n d w)).1 = lo at *
  generalize (nearR neg w (nearF n d w)).2 = hi at *
  have Pw := p2_pos (w - P)
  have e : p2 w = p2 P * p2 (w - P) := by
    have : w = P + (w - P) := by omega
    have e2 : 2 ^ w = 2 ^ P * 2 ^ (w - P) := by rw [← Nat.pow_add]; congr 1
    show ((2 ^ w : Nat) : Rat) = _
    rw [e2]; exact Ex.castmul _ _
  obtain ⟨b1, b2⟩ := en
  rw [e, ← Rat.mul_assoc] at b1 b2
  constructor
  · refine le_by Pw ?_
    have k : m * 2 ^ (w - P) ≤ lo := by rw [hm]; exact Nat.div_mul_le_self _ _
    have k2 := Ex.castle k
    rw [Ex.castmul] at k2
    exact Rat.le_trans k2 b1
  · refine le_by Pw ?_
    have k : hi ≤ (m + 1) * 2 ^ (w - P) := by
      have := Nat.lt_mul_div_succ (hi - 1) (show 0 < 2 ^ (w - P) from Nat.pow_pos (by omega))
      rw [← w3', Nat.mul_comm] at this
      omega
    have k2 := Ex.castle k
    rw [Ex.castmul] at k2
    exact Rat.le_trans b2 k2
theorem exps_Exp (hv : RatA v x L) (hL1 : 1 ≤ L) (hL : L ≤ 100) (hx0 : x ≠ 0) (h1 : -64 ≤ x) (h2 : x ≤ 64) (hd : x.den ≤ 2 ^ 240) (hP : P ≤ 512) (hpI : (pI ≤ 0 ∧ P = 0) ∨ pI = (P : Int)) :
    ∃ m : Nat, (lim m).length ≤ 5000 ∧ Go.Ev.Fn CX 152 [v, .int .i64 pI] (.tup [ballR (mkRat (m : Int) (2 ^ P)) (mkRat ((m + 1 : Nat) : Int) (2 ^ P)), .bool true]) ∧ ∃ s0, ∀ L, s0 ≤ L → Enc P m (m + 1) (evX x L) := by
  have zx := szR_of hv hL1
  have n1 := rat_Norm hv (by omega)
  have im := rat_Int (-64) (by omega)
  have ip := rat_Int 64 (by omega)
  have c1 := rat_Cmp (RatA_rv zx) (RatA_rv (int_szR (n := -64) (by omega))) hL1 (by omega) (by omega)
  have c2 := rat_Cmp (RatA_rv zx) (RatA_rv (int_szR (n := 64) (by omega))) hL1 (by omega) (by omega)
  have zr := rat_Zero (RatA_rv zx) hL1 (by omega)
  rw [decide_eq_false hx0] at zr
  have e1 : decide (cmpR x ((-64 : Int) : Rat) < 0) = false := by rw [cmpR_lt]; exact decide_eq_false (Rat.not_lt.2 h1)
  have e2 : decide (cmpR x ((64 : Int) : Rat) > 0) = false := by rw [cmpR_gt]; exact decide_eq_false (Rat.not_lt.2 h2)
  have dp := x.den_pos
  have dR : (0 : Rat) < (x.den : Rat) := by exact_mod_cast dp
  have nd := Ex.denR x
  have n0 : 0 < x.num.natAbs := by
    have : x.num ≠ 0 := fun e => hx0 (num_zero.1 e)
    omega
  have xm : x.num ≤ 64 * (x.den : Int) ∧ -(64 * (x.den : Int)) ≤ x.num := by
    constructor
    · have m := Rat.mul_le_mul_of_nonneg_right h2 (Rat.le_of_lt dR)
      rw [nd] at m
      have : (x.num : Rat) ≤ ((64 * (x.den : Int) : Int) : Rat) := by rw [Rat.intCast_mul]; exact m
      exact Rat.intCast_le_intCast.1 this
    · have m := Rat.mul_le_mul_of_nonneg_right h1 (Rat.le_of_lt dR)
      rw [nd] at m
      have : ((-(64 * (x.den : Int)) : Int) : Rat) ≤ (x.num : Rat) := by
        rw [Rat.intCast_neg, Rat.intCast_mul]
        have e : -(((64 : Int) : Rat) * ((x.den : Int) : Rat)) = -64 * (x.den : Rat) := by
          have e3 : ((x.den : Int) : Rat) = (x.den : Rat) := rfl
          have e4 : ((64 : Int) : Rat) = 64 := rfl
          rw [e3, e4]; grind
        rw [e]; exact m
      exact Rat.intCast_le_intCast.1 this
  obtain ⟨m, -, lm, fn, en⟩ := exp_end (P := P) (n := x.num.natAbs) (d := x.den) (neg := decide (x.num < 0)) n0 dp (by omega) hd hP (Nat.le_trans zx.1 (by omega)) (Nat.le_trans zx.2 (by omega))
  have x1 : (if (0 : Int) > pI then (0 : Int) else pI) = (P : Int) := by split <;> omega
  have x2 : (if (512 : Int) < (P : Int) then (512 : Int) else (P : Int)) = (P : Int) := if_neg (by omega)
  refine ⟨m, lm, ?_, ?_⟩
  · clear en nd xm zx h1 h2 hx0 hpI
    obtain ⟨s, n, d, rfl, -⟩ := hv
    generalize mkRat (m : Int) (2 ^ P) = q1 at *
    generalize mkRat ((m + 1 : Nat) : Int) (2 ^ P) = q2 at *
    generalize cmpR x ((-64 : Int) : Rat) = y1 at *
    generalize cmpR x ((64 : Int) : Rat) = y2 at *
    refine Go.Ev.Fn.intro (fn := Tryz.f152) (body := (Tryz.f152).body.get!) (by kernel_rfl) (by kernel_rfl) (by kernel_rfl) (fun _ => rfl) (Nat.le_of_ble_eq_true (by kernel_rfl)) ?_; unfold Tryz.f152; simp only [Option.get!_some]
    repeat (first | (simp only [go_sem, x1, x2, e1, e2, List.size_toArray, Array.size_empty]) | (simp (disch := (first | omega | (simp only [AL, List.length_map]; omega))) only [AR, AL, ifT, ifF, take_all, List.length_cons, List.length_nil, Int.reduceToNat, Int.reducePow, Nat.reducePow, x1, x2, e1, e2, List.size_toArray, Array.size_empty]) | (refine wk_intro (by kernel_rfl) ?_) | (refine vp_draw (id := 2) (l := []) (by kernel_rfl) ?_) | (refine vf_of (by first | exact n1 | exact im | exact c1 | exact ip | exact c2 | exact zr | exact fn) ?_))
  · by_cases hneg : x.num < 0
    · have xneg : x < 0 := by
        have := neg_numX (x := x)
        rw [decide_eq_true hneg] at this
        exact of_decide_eq_true this.symm
      obtain ⟨s0, hs⟩ := en (-x) (by
        have e : (x.num.natAbs : Int) = -x.num := by omega
        have e2 : ((x.num.natAbs : Nat) : Rat) = ((x.num.natAbs : Int) : Rat) := rfl
        rw [e2, e, Rat.intCast_neg, ← nd]; grind)
      rw [decide_eq_true hneg] at hs
      refine ⟨s0, fun L hL => ?_⟩
      unfold evX
      rw [if_pos xneg]
      exact hs L hL
    · have xpos : ¬ x < 0 := by
        have := neg_numX (x := x)
        rw [decide_eq_false hneg] at this
        exact of_decide_eq_false this.symm
      obtain ⟨s0, hs⟩ := en x (by
        have e : (x.num.natAbs : Int) = x.num := by omega
        have e2 : ((x.num.natAbs : Nat) : Rat) = ((x.num.natAbs : Int) : Rat) := rfl
        rw [e2, e, ← nd])
      rw [decide_eq_false hneg] at hs
      refine ⟨s0, fun L hL => ?_⟩
      unfold evX
      rw [if_neg xpos]
      exact hs L hL
end
end Go.Proofs.YtecjelnpmcnbaaaGreat
namespace Go.Proofs.YtecjelnpmcnbaaaGreat
open Go.Ev
theorem tm_neg (y : Rat) : ∀ m, Ex.tm (-y) m = if m % 2 = 1 then -Ex.tm y m else Ex.tm y m
  | 0 => rfl
  | m + 1 => by
    have ih := tm_neg y m
    show Ex.tm (-y) m * -y / ((m + 1 : Nat) : Rat) = if (m + 1) % 2 = 1 then -(Ex.tm y m * y / ((m + 1 : Nat) : Rat)) else Ex.tm y m * y / ((m + 1 : Nat) : Rat)
    rw [Rat.div_def, Rat.div_def]
    by_cases h : m % 2 = 1
    · rw [if_pos h] at ih
      rw [ih, if_neg (by omega)]; grind
    · rw [if_neg h] at ih
      rw [ih, if_pos (by omega)]; grind
theorem tm_negB {y : Rat} (h : 0 ≤ y) (m : Nat) : Ex.Bdd (Ex.tm (-y) m) (Ex.tm y m) := by
  have n := Ex.tm_nn h m
  rw [tm_neg]
  by_cases g : m % 2 = 1
  · rw [if_pos g]; constructor <;> grind
  · rw [if_neg g]; constructor <;> grind
theorem pe_negB {y : Rat} (h : 0 ≤ y) (N : Nat) : ∀ c, Ex.Bdd (Ex.E (-y) c * Ex.E y N - Ex.pe (-y) y N c) (Ex.E y c * Ex.E y N - Ex.pe y y N c)
  | 0 => by
    show Ex.Bdd (0 * _ - 0) (0 * _ - 0)
    rw [Rat.zero_mul]
    exact ⟨by decide +kernel, by decide +kernel⟩
  | c + 1 => by
    have ih := pe_negB h N c
    have m := Ex.E_mono h (Nat.sub_le N c)
    have d : Ex.Bdd (Ex.E y N - Ex.E y (N - c)) (Ex.E y N - Ex.E y (N - c)) := by
      generalize Ex.E y N = a at *
      generalize Ex.E y (N - c) = b at *
      clear ih
      constructor <;> grind
    have t := Ex.Bdd_add ih (Ex.Bdd_mul (tm_negB h c) d)
    have e1 : Ex.E (-y) (c + 1) * Ex.E y N - Ex.pe (-y) y N (c + 1) = Ex.E (-y) c * Ex.E y N - Ex.pe (-y) y N c + Ex.tm (-y) c * (Ex.E y N - Ex.E y (N - c)) := by
      show (Ex.E (-y) c + Ex.tm (-y) c) * Ex.E y N - (Ex.pe (-y) y N c + Ex.tm (-y) c * Ex.E y (N - c)) = _
      grind
    have e2 : Ex.E y (c + 1) * Ex.E y N - Ex.pe y y N (c + 1) = Ex.E y c * Ex.E y N - Ex.pe y y N c + Ex.tm y c * (Ex.E y N - Ex.E y (N - c)) := by
      show (Ex.E y c + Ex.tm y c) * Ex.E y N - (Ex.pe y y N c + Ex.tm y c * Ex.E y (N - c)) = _
      grind
    rw [e1, e2]; exact t
theorem E_inv {y : Rat} (h : 0 ≤ y) {L : Nat} (h1 : 1 ≤ L) (h2 : (y + y) + (y + y) ≤ ((L + 1 : Nat) : Rat)) : Ex.Bdd (Ex.E (-y) L - 1 / Ex.E y L) (2 * Ex.tm (y + y) L) := by
  have a := pe_negB h L L
  rw [Ex.pe_full, Ex.pe_full, show -y + y = 0 by grind] at a
  obtain ⟨k, rfl⟩ : ∃ k, L = k + 1 := ⟨L - 1, by omega⟩
  rw [Ex.E_zero] at a
  have b := Ex.E_add_ge h h (k + 1) (k + 1)
  have c := Ex.E_tail_le (L := k + 1 + (k + 1)) (show 0 ≤ y + y by grind) h2
  have one := E_one h h1
  have iv : Ex.E y (k + 1) * (1 / Ex.E y (k + 1)) = 1 := Ex.mul_div _ 1 (by grind)
  have i0 : 0 ≤ 1 / Ex.E y (k + 1) := Ex.div_nn (by decide) (by grind)
  have i1 : 1 / Ex.E y (k + 1) ≤ 1 := by
    have := Rat.mul_le_mul_of_nonneg_right one i0
    rw [iv, Rat.one_mul] at this; exact this
  generalize 1 / Ex.E y (k + 1) = i at *
  have bi : Ex.Bdd i 1 := ⟨by grind, i1⟩
  have m := Ex.Bdd_mul (Ex.Bdd_mono a (show _ ≤ 2 * Ex.tm (y + y) (k + 1) by grind)) bi
  rw [Rat.mul_one] at m
  have e : (Ex.E (-y) (k + 1) * Ex.E y (k + 1) - 1) * i = Ex.E (-y) (k + 1) - i := by
    have : (Ex.E (-y) (k + 1) * Ex.E y (k + 1) - 1) * i = Ex.E (-y) (k + 1) * (Ex.E y (k + 1) * i) - i := by grind
    rw [this, iv, Rat.mul_one]
  rw [e] at m; exact m
theorem castZn (n : Nat) : (((n : Nat) : Int) : Rat) = (n : Rat) := rfl
end Go.Proofs.YtecjelnpmcnbaaaGreat
namespace Go.Proofs.YtecjelnpmcnbaaaGreat
open Go.Ev
def tk (y : Rat) (k0 : Nat) : Nat → Rat
  | 0 => 1
  | j + 1 => tk y k0 j * y * ((1 : Nat) : Rat) / ((k0 + 2 * j : Nat) : Rat)
def sk (y : Rat) (k0 : Nat) : Nat → Rat
  | 0 => 0
  | j + 1 => sk y k0 j + tk y k0 j
section
variable {y : Rat} {k0 : Nat}
theorem tk_step (hk : 1 ≤ k0) (j : Nat) : ((k0 + 2 * j : Nat) : Rat) * tk y k0 (j + 1) = tk y k0 j * y := by
  have c : (0 : Rat) < ((k0 + 2 * j : Nat) : Rat) := Ex.castlt (a := 0) (by omega)
  show _ * (tk y k0 j * y * ((1 : Nat) : Rat) / _) = _
  rw [Ex.mul_div _ _ (by grind), show ((1 : Nat) : Rat) = 1 from rfl, Rat.mul_one]
theorem tk_nn (hk : 1 ≤ k0) (h : 0 ≤ y) : ∀ j, 0 ≤ tk y k0 j
  | 0 => by show (0 : Rat) ≤ 1; decide
  | j + 1 => by
    have ih := tk_nn hk h j
    exact Ex.div_nn (Rat.mul_nonneg (Rat.mul_nonneg ih h) (Ex.nat_nn 1)) (Ex.castlt (a := 0) (by omega))
theorem sk_nn (hk : 1 ≤ k0) (h : 0 ≤ y) : ∀ j, 0 ≤ sk y k0 j
  | 0 => Rat.le_refl
  | j + 1 => by
    have a := sk_nn hk h j
    have b := tk_nn hk h j
    show 0 ≤ sk y k0 j + tk y k0 j
    grind
theorem tk_half (hk : 1 ≤ k0) (h : 0 ≤ y) {j : Nat} (g : y + y ≤ ((k0 + 2 * j : Nat) : Rat)) : tk y k0 (j + 1) + tk y k0 (j + 1) ≤ tk y k0 j := by
  have c : (0 : Rat) < ((k0 + 2 * j : Nat) : Rat) := Ex.castlt (a := 0) (by omega)
  have e := tk_step (y := y) hk j
  have n := tk_nn hk h j
  refine le_by c ?_
  have m := Rat.mul_le_mul_of_nonneg_left g n
  have e2 : (tk y k0 (j + 1) + tk y k0 (j + 1)) * ((k0 + 2 * j : Nat) : Rat) = ((k0 + 2 * j : Nat) : Rat) * tk y k0 (j + 1) + ((k0 + 2 * j : Nat) : Rat) * tk y k0 (j + 1) := by grind
  rw [e2, e]
  grind
theorem sk_rest (hk : 1 ≤ k0) (h : 0 ≤ y) {i : Nat} (g : y + y ≤ ((k0 + 2 * i : Nat) : Rat)) : ∀ m, sk y k0 (i + 1 + m) + tk y k0 (i + m) ≤ sk y k0 (i + 1) + tk y k0 i
  | 0 => Rat.le_refl
  | m + 1 => by
    have ih := sk_rest hk h g m
    have hf := tk_half (j := i + m) hk h (Rat.le_trans g (Ex.castle (by omega)))
    show sk y k0 (i + 1 + m) + tk y k0 (i + 1 + m) + tk y k0 (i + (m + 1)) ≤ _
    rw [show i + 1 + m = i + m + 1 by omega] at *
    rw [show i + (m + 1) = i + m + 1 by omega]
    grind
theorem sk_up (hk : 1 ≤ k0) (h : 0 ≤ y) {i L : Nat} (g : i ≤ L) : sk y k0 i ≤ sk y k0 L := by
  obtain ⟨m, rfl⟩ := Nat.exists_eq_add_of_le g
  clear g
  induction m with
  | zero => exact Rat.le_refl
  | succ m ih =>
    have := tk_nn hk h (i + m)
    show _ ≤ sk y k0 (i + m) + tk y k0 (i + m)
    grind
theorem sk_top (hk : 1 ≤ k0) (h : 0 ≤ y) {i L : Nat} (g : y + y ≤ ((k0 + 2 * i : Nat) : Rat)) : sk y k0 L ≤ sk y k0 (i + 1) + tk y k0 i := by
  have n := tk_nn hk h i
  rcases Nat.le_total L (i + 1) with e | e
  · have := sk_up hk h e
    grind
  · obtain ⟨m, rfl⟩ := Nat.exists_eq_add_of_le e
    have := sk_rest hk h g m
    have := tk_nn hk h (i + m)
    grind
end
theorem tRow_enc {w Y1 Y2 M k0 : Nat} {y c : Rat} (hk0 : 1 ≤ k0) (hy : Enc w Y1 Y2 y) (hc : 0 ≤ c) (late : ∀ i, M ≤ k0 + 2 * i → c * tk y k0 i * p2 w < 4 → y + y ≤ ((k0 + 2 * i : Nat) : Rat)) :
    ∀ (f i t1 t2 a1 a2 A B : Nat), tRow w Y1 Y2 M f (k0 + 2 * i) t1 t2 a1 a2 = some (A, B) → Enc w t1 t2 (c * tk y k0 i) → Enc w a1 a2 (c * sk y k0 (i + 1)) → ∃ s, ∀ L, s ≤ L → Enc w A B (c * sk y k0 L) := by
  have y0 := enc_nonneg hy
  have P := p2_pos w
  intro f
  induction f with
  | zero => intro i t1 t2 a1 a2 A B h; cases h
  | succ f ih =>
    intro i t1 t2 a1 a2 A B h ht ha
    rw [tRow] at h
    by_cases g : M ≤ k0 + 2 * i ∧ t2 < 4
    · rw [if_pos g] at h
      simp only [Option.some.injEq, Prod.mk.injEq] at h
      obtain ⟨rfl, rfl⟩ := h
      have t3 : (t2 : Rat) ≤ 3 := Ex.castle (b := 3) (by omega)
      have lt := late i g.1 (by have := ht.2; grind)
      refine ⟨i + 1, fun L hL => ?_⟩
      have up := sk_up hk0 y0 hL
      have top := sk_top (L := L) hk0 y0 lt
      have m1 := Rat.mul_le_mul_of_nonneg_right (Rat.mul_le_mul_of_nonneg_left up hc) (Rat.le_of_lt P)
      have m2 := Rat.mul_le_mul_of_nonneg_right (Rat.mul_le_mul_of_nonneg_left top hc) (Rat.le_of_lt P)
      refine ⟨Rat.le_trans ha.1 m1, Rat.le_trans m2 ?_⟩
      rw [Ex.castadd, show ((8 : Nat) : Rat) = 8 from rfl, Rat.mul_add, Rat.add_mul]
      have a := ha.2
      have b := ht.2
      generalize c * sk y k0 (i + 1) * p2 w = u at *
      generalize c * tk y k0 i * p2 w = v at *
      clear late ih m1 m2 up top lt
      grind
    · rw [if_neg g] at h
      have e1 := enc_times (n := 1) (d := k0 + 2 * i) (by omega) (enc_mul ht hy)
      have e2 : c * tk y k0 i * y * ((1 : Nat) : Rat) / ((k0 + 2 * i : Nat) : Rat) = c * tk y k0 (i + 1) := by
        show _ = c * (tk y k0 i * y * ((1 : Nat) : Rat) / ((k0 + 2 * i : Nat) : Rat))
        rw [Rat.div_def, Rat.div_def]; grind
      rw [e2] at e1
      have e3 := enc_add ha e1
      rw [← Rat.mul_add] at e3
      exact ih (i + 1) _ _ _ _ A B h e1 e3
def wRow (W D : Nat) : Nat → Nat → Nat → Nat → Nat → Nat → Nat × Nat
  | 0, _, _, _, s, e => (s, e)
  | f + 1, k, t, d, s, e => pin (k + 2) fun k' => pin (t * W / k + 2) fun t' => pin ((d * W + t * D) / k + 8) fun d' => pin (s + t') fun s' => pin (e + d') fun e' => wRow W D f k' t' d' s' e'
theorem wRow_succ (W D f k t d s e : Nat) : wRow W D (f + 1) k t d s e = wRow W D f (k + 2) (t * W / k + 2) ((d * W + t * D) / k + 8) (s + (t * W / k + 2)) (e + ((d * W + t * D) / k + 8)) := by
  rw [wRow, pin_eq, pin_eq, pin_eq, pin_eq, pin_eq]
theorem wRow_up (W D : Nat) : ∀ (f k t d s e : Nat), s ≤ (wRow W D f k t d s e).1 ∧ e ≤ (wRow W D f k t d s e).2
  | 0, _, _, _, s, e => ⟨Nat.le_refl _, Nat.le_refl _⟩
  | f + 1, k, t, d, s, e => by
    have h := wRow_up W D f (k + 2) (t * W / k + 2) ((d * W + t * D) / k + 8) (s + (t * W / k + 2)) (e + ((d * W + t * D) / k + 8))
    rw [wRow_succ]
    exact ⟨Nat.le_trans (Nat.le_add_right _ _) h.1, Nat.le_trans (Nat.le_add_right _ _) h.2⟩
theorem wRow_step {w Y1 Y2 W D k t1 t2 t d : Nat} (hk : 1 ≤ k) (hY : Y2 ≤ W * 2 ^ w) (hY1 : Y1 ≤ Y2) (hD : Y2 ≤ Y1 + D) (h12 : t1 ≤ t2) (ht : t2 ≤ t * 2 ^ w) (hd : t2 ≤ t1 + d) :
    (t2 * Y2 / 2 ^ w + 1) * 1 / k + 1 ≤ (t * W / k + 2) * 2 ^ w ∧ (t2 * Y2 / 2 ^ w + 1) * 1 / k + 1 ≤ t1 * Y1 / 2 ^ w * 1 / k + ((d * W + t * D) / k + 8) := by
  have P : 0 < 2 ^ w := Nat.pow_pos (by omega)
  rw [Nat.mul_one, Nat.mul_one]
  have a : t2 * Y2 / 2 ^ w ≤ t2 * W := by
    refine (Nat.div_le_iff_le_mul P).2 ?_
    have m := Nat.mul_le_mul_left t2 hY
    rw [← Nat.mul_assoc] at m
    omega
  have gap : t2 * Y2 / 2 ^ w ≤ t1 * Y1 / 2 ^ w + (d * W + t * D) + 1 := by
    have h1 : t2 * Y2 ≤ t1 * Y1 + (d * W + t * D) * 2 ^ w := by
      have m1 : t2 * Y2 ≤ (t1 + d) * Y2 := Nat.mul_le_mul_right _ hd
      have m2 : t1 * Y2 ≤ t1 * (Y1 + D) := Nat.mul_le_mul_left _ hD
      have m3 : d * Y2 ≤ d * (W * 2 ^ w) := Nat.mul_le_mul_left _ hY
      have m4 : t1 * D ≤ t * 2 ^ w * D := Nat.mul_le_mul_right _ (Nat.le_trans h12 ht)
      have e1 : (d * W + t * D) * 2 ^ w = d * (W * 2 ^ w) + t * 2 ^ w * D := by rw [Nat.add_mul]; rw [Nat.mul_assoc d, Nat.mul_right_comm t D]
      rw [Nat.add_mul] at m1
      rw [Nat.mul_add] at m2
      omega
    have h2 := Nat.div_le_div_right (c := 2 ^ w) h1
    rw [Nat.add_mul_div_right _ _ P] at h2
    omega
  constructor
  · have b : (t2 * Y2 / 2 ^ w + 1) / k ≤ t * W / k * 2 ^ w + 2 ^ w := by
      refine (Nat.div_le_iff_le_mul hk).2 ?_
      have m := Nat.mul_le_mul_right W ht
      have q := Nat.lt_mul_div_succ (t * W) hk
      have m2 := Nat.mul_le_mul_right (2 ^ w) (show t * W + 1 ≤ k * (t * W / k + 1) by omega)
      have e1 : t * 2 ^ w * W = t * W * 2 ^ w := by rw [Nat.mul_assoc, Nat.mul_comm (2 ^ w), ← Nat.mul_assoc]
      have e2 : (t * W / k * 2 ^ w + 2 ^ w) * k = k * (t * W / k + 1) * 2 ^ w := by
        generalize t * W / k = z
        generalize 2 ^ w = p
        grind
      rw [Nat.add_mul, Nat.one_mul] at m2
      omega
    have e : (t * W / k + 2) * 2 ^ w = t * W / k * 2 ^ w + 2 ^ w + 2 ^ w := by rw [Nat.add_mul]; omega
    omega
  · generalize t2 * Y2 / 2 ^ w = q2 at *
    generalize t1 * Y1 / 2 ^ w = q1 at *
    generalize d * W + t * D = g at *
    have h3 : (q2 + 1) / k ≤ (q1 + g + 2) / k := Nat.div_le_div_right (by omega)
    have h4 : (q1 + g + 2) / k ≤ q1 / k + g / k + 4 := by
      refine (Nat.div_le_iff_le_mul hk).2 ?_
      have a1 := Nat.lt_mul_div_succ q1 hk
      have a2 := Nat.lt_mul_div_succ g hk
      have e : (q1 / k + g / k + 4) * k = k * (q1 / k + 1) + k * (g / k + 1) + 2 * k := by
        generalize q1 / k = z1
        generalize g / k = z2
        grind
      omega
    omega
theorem tRow_wide {w Y1 Y2 M W D : Nat} (hY : Y2 ≤ W * 2 ^ w) (hY1 : Y1 ≤ Y2) (hD : Y2 ≤ Y1 + D) : ∀ (f F k t1 t2 a1 a2 t d s e A B : Nat), f ≤ F → 1 ≤ k → tRow w Y1 Y2 M f k t1 t2 a1 a2 = some (A, B) → t1 ≤ t2 → t2 ≤ t * 2 ^ w → t2 ≤ t1 + d → a2 ≤ s * 2 ^ w → a2 ≤ a1 + e → a1 ≤ a2 →
    A ≤ B ∧ B ≤ (wRow W D F k t d s e).1 * 2 ^ w + 8 ∧ B ≤ A + (wRow W D F k t d s e).2 + 8 := by
  intro f
  induction f with
  | zero => intro F k t1 t2 a1 a2 t d s e A B _ _ h; cases h
  | succ f ih =>
    intro F k t1 t2 a1 a2 t d s e A B hF hk h h12 ht hd hs he ha
    obtain ⟨F, rfl⟩ : ∃ G, F = G + 1 := ⟨F - 1, by omega⟩
    rw [tRow] at h
    by_cases g : M ≤ k ∧ t2 < 4
    · rw [if_pos g] at h
      simp only [Option.some.injEq, Prod.mk.injEq] at h
      obtain ⟨rfl, rfl⟩ := h
      obtain ⟨u1, u2⟩ := wRow_up W D (F + 1) k t d s e
      have m := Nat.mul_le_mul_right (2 ^ w) u1
      exact ⟨by omega, by omega, by omega⟩
    · rw [if_neg g] at h
      obtain ⟨s1, s2⟩ := wRow_step hk hY hY1 hD h12 ht hd
      have q0 : t1 * Y1 / 2 ^ w * 1 / k ≤ (t2 * Y2 / 2 ^ w + 1) * 1 / k + 1 := by
        refine Nat.le_succ_of_le (Nat.div_le_div_right (Nat.mul_le_mul_right 1 ?_))
        exact Nat.le_succ_of_le (Nat.div_le_div_right (Nat.mul_le_mul h12 hY1))
      rw [wRow_succ]
      have ih' := fun t1 t2 a1 a2 t d s e => ih F (k + 2) t1 t2 a1 a2 t d s e A B (by omega) (by omega)
      clear ih hY hY1 hD ht hd
      generalize t1 * Y1 / 2 ^ w * 1 / k = u1 at *
      generalize (t2 * Y2 / 2 ^ w + 1) * 1 / k + 1 = u2 at *
      generalize t * W / k + 2 = t' at *
      generalize (d * W + t * D) / k + 8 = d' at *
      refine ih' _ _ _ _ t' d' (s + t') (e + d') h q0 s1 s2 ?_ (by omega) (by omega)
      rw [Nat.add_mul]; omega
end Go.Proofs.YtecjelnpmcnbaaaGreat
namespace Go.Proofs.YtecjelnpmcnbaaaGreat
open Go.Ev
def mnR (m x : Rat) : Rat := if x < m then x else m
def mxR (m x : Rat) : Rat := if m < x then x else m
def loL (f : Rat) (l : List Rat) : Rat := l.foldl mnR f
def hiL (f : Rat) (l : List Rat) : Rat := l.foldl mxR f
theorem loL_snoc (f : Rat) (l : List Rat) {i : Nat} (h : i < l.length) : loL f (l.take (i + 1)) = mnR (loL f (l.take i)) (l.getD i 0) := by
  unfold loL
  rw [List.take_add_one, List.foldl_append, List.getD_eq_getElem?_getD, List.getElem?_eq_getElem h]
  rfl
theorem hiL_snoc (f : Rat) (l : List Rat) {i : Nat} (h : i < l.length) : hiL f (l.take (i + 1)) = mxR (hiL f (l.take i)) (l.getD i 0) := by
  unfold hiL
  rw [List.take_add_one, List.foldl_append, List.getD_eq_getElem?_getD, List.getElem?_eq_getElem h]
  rfl
end Go.Proofs.YtecjelnpmcnbaaaGreat
namespace Go.Proofs.YtecjelnpmcnbaaaGreat
open Go.Ev
abbrev ballC (a b : Rat) : List SV := [.bool (decide (a.num < 0)), natV (lim a.num.natAbs), natV (lim a.den), .bool (decide (b.num < 0)), natV (lim b.num.natAbs), natV (lim b.den)]
theorem loL_sz {f : Rat} {l : List Rat} {L : Nat} (hf : szR f L) (hl : ∀ x ∈ l, szR x L) : szR (loL f l) L := by
  induction l generalizing f with
  | nil => exact hf
  | cons x l ih =>
    refine ih (f := mnR f x) ?_ (fun y hy => hl y (List.mem_cons_of_mem _ hy))
    unfold mnR
    split
    · exact hl x List.mem_cons_self
    · exact hf
theorem hiL_sz {f : Rat} {l : List Rat} {L : Nat} (hf : szR f L) (hl : ∀ x ∈ l, szR x L) : szR (hiL f l) L := by
  induction l generalizing f with
  | nil => exact hf
  | cons x l ih =>
    refine ih (f := mxR f x) ?_ (fun y hy => hl y (List.mem_cons_of_mem _ hy))
    unfold mxR
    split
    · exact hl x List.mem_cons_self
    · exact hf
set_option maxHeartbeats 1000000 in
theorem ball_around {f : Rat} {l : List Rat} {L : Nat} (hf : szR f L) (hl : ∀ x ∈ l, szR x L) (hL1 : 1 ≤ L) (hL : L ≤ 10000) (hn : l.length ≤ 10) : Go.Ev.Fn CX 221 [rv f, .sl l.length (rvsC l)] (ballR (loL f l) (hiL f l)) := by
  have o := ball_Of (RatA_rv hf) (by omega)
  have hat := fun {i : Nat} (h : i < l.length) => rvsC_at (l := l) (i := i) h
  have hlen := rvsC_len l
  have zlo := fun i => loL_sz (f := f) (l := l.take i) hf (fun x hx => hl x (List.mem_of_mem_take hx))
  have zhi := fun i => hiL_sz (f := f) (l := l.take i) hf (fun x hx => hl x (List.mem_of_mem_take hx))
  have zx := fun {i : Nat} (h : i < l.length) => hl _ (getD_mem (l := l) h)
  have slo := fun {i : Nat} (h : i < l.length) => loL_snoc f l h
  have shi := fun {i : Nat} (h : i < l.length) => hiL_snoc f l h
  generalize hcs : rvsC l = cs at *
  clear hl hf
  refine Go.Ev.Fn.intro (fn := Tryz.f221) (body := (Tryz.f221).body.get!) (by kernel_rfl) (by kernel_rfl) (by kernel_rfl) (fun _ => rfl) (Nat.le_of_ble_eq_true (by kernel_rfl)) ?_; unfold Tryz.f221; simp only [Option.get!_some]
  repeat (first | (simp only [go_sem]) | (simp (disch := (first | omega | (simp only [AL, List.length_map]; omega))) only [AR, AL, ifT, ifF, take_all, List.length_cons, List.length_nil, Int.reduceToNat, Int.reducePow, Nat.reducePow]) | (refine wk_intro (by kernel_rfl) ?_) | (refine vf_of (by first | exact o) ?_))
  refine vp_loop_inv (fun s => s.tmp 4 = .ptr 4 0 0 ∧ s.obj 4 0 = some [.bool false, .sl 0 [], .sl 0 [], .bool false, .sl 0 [], .sl 0 []] ∧ s.tmp 5 = .ptr 5 0 0 ∧ s.tmp 10 = .sv (.sl l.length cs) ∧ s.tmp 11 = .sv (.int .i64 (l.length : Int)) ∧
      ∃ i : Nat, s.tmp 12 = .sv (.int .i64 (i : Int)) ∧ i ≤ l.length ∧ s.obj 5 0 = some (ballC (loL f (l.take i)) (hiL f (l.take i))))
    (fun s => match s.tmp 12 with | .sv (.int _ i) => l.length - i.toNat | _ => 0) ⟨rfl, rfl, rfl, rfl, rfl, 0, rfl, by omega, rfl⟩ ?_
  rintro s ⟨i4, o4, i5, i10, i11, i, i12, hi, o5⟩
  by_cases hend : i = l.length
  · subst hend
    rw [List.take_length] at o5
    clear hat zlo zhi zx slo shi
    generalize loL f l = lo at *
    generalize hiL f l = hh at *
    repeat (first | (simp only [go_sem, i4, o4, i5, i10, i11, i12, o5, ballC]) | (simp (disch := (first | omega | (simp only [AL, List.length_map]; omega))) only [AR, AL, ifT, ifF, take_all, List.length_cons, List.length_nil, Int.reduceToNat, Int.reducePow, Nat.reducePow, i4, o4, i5, i10, i11, i12, o5, ballC]) | (refine wk_intro (by kernel_rfl) ?_))
  · obtain ⟨rest, g1⟩ := hat (i := i) (by omega)
    have a1 := zlo i
    have a2 := zhi i
    have a3 := zx (i := i) (by omega)
    have b1 := slo (i := i) (by omega)
    have b2 := shi (i := i) (by omega)
    generalize hlo' : loL f (l.take (i + 1)) = lo' at *
    generalize hhi' : hiL f (l.take (i + 1)) = hi' at *
    generalize loL f (l.take i) = lo at *
    generalize hiL f (l.take i) = hh at *
    generalize l.getD i 0 = x at *
    have c1 := rat_Cmp (RatA_rv a3) (RatA_rv a1) hL1 hL1 (by omega)
    have c2 := rat_Cmp (RatA_rv a3) (RatA_rv a2) hL1 hL1 (by omega)
    have nx := rat_Norm (RatA_rv a3) (by omega)
    have e1 := cmpR_lt (q := x) (r := lo)
    have e2 := cmpR_gt (q := x) (r := hh)
    clear hat zlo zhi zx slo shi a1 a2 a3
    generalize cmpR x lo = z1 at *
    generalize cmpR x hh = z2 at *
    unfold ballC at o5
    by_cases k1 : x < lo
    · rw [decide_eq_true k1] at e1
      rw [mnR, if_pos k1] at b1
      by_cases k2 : hh < x
      · rw [decide_eq_true k2] at e2
        rw [mxR, if_pos k2] at b2
        clear k1 k2
        repeat (first | (simp only [go_sem, i4, o4, i5, i10, i11, i12, o5, g1, hlen, e1, e2]) | (simp (disch := (first | omega | (simp only [AL, List.length_map]; omega))) only [AR, AL, ifT, ifF, take_all, List.length_cons, List.length_nil, Int.reduceToNat, Int.reducePow, Nat.reducePow, i4, o4, i5, i10, i11, i12, o5, g1, hlen, e1, e2]) | (refine wk_intro (by kernel_rfl) ?_) | (refine vf_of (by first | exact c1 | exact nx | exact c2) ?_))
        exact ⟨⟨i + 1, rfl, by omega, by rw [hlo', hhi', b1, b2]⟩, by omega⟩
      · rw [decide_eq_false k2] at e2
        rw [mxR, if_neg k2] at b2
        clear k1 k2
        repeat (first | (simp only [go_sem, i4, o4, i5, i10, i11, i12, o5, g1, hlen, e1, e2]) | (simp (disch := (first | omega | (simp only [AL, List.length_map]; omega))) only [AR, AL, ifT, ifF, take_all, List.length_cons, List.length_nil, Int.reduceToNat, Int.reducePow, Nat.reducePow, i4, o4, i5, i10, i11, i12, o5, g1, hlen, e1, e2]) | (refine wk_intro (by kernel_rfl) ?_) | (refine vf_of (by first | exact c1 | exact nx | exact c2) ?_))
        exact ⟨⟨i + 1, rfl, by omega, by rw [hlo', hhi', b1, b2]⟩, by omega⟩
    · rw [decide_eq_false k1] at e1
      rw [mnR, if_neg k1] at b1
      by_cases k2 : hh < x
      · rw [decide_eq_true k2] at e2
        rw [mxR, if_pos k2] at b2
        clear k1 k2
        repeat (first | (simp only [go_sem, i4, o4, i5, i10, i11, i12, o5, g1, hlen, e1, e2]) | (simp (disch := (first | omega | (simp only [AL, List.length_map]; omega))) only [AR, AL, ifT, ifF, take_all, List.length_cons, List.length_nil, Int.reduceToNat, Int.reducePow, Nat.reducePow, i4, o4, i5, i10, i11, i12, o5, g1, hlen, e1, e2]) | (refine wk_intro (by kernel_rfl) ?_) | (refine vf_of (by first | exact c1 | exact c2 | exact nx) ?_))
        exact ⟨⟨i + 1, rfl, by omega, by rw [hlo', hhi', b1, b2]⟩, by omega⟩
      · rw [decide_eq_false k2] at e2
        rw [mxR, if_neg k2] at b2
        clear k1 k2
        repeat (first | (simp only [go_sem, i4, o4, i5, i10, i11, i12, o5, g1, hlen, e1, e2]) | (simp (disch := (first | omega | (simp only [AL, List.length_map]; omega))) only [AR, AL, ifT, ifF, take_all, List.length_cons, List.length_nil, Int.reduceToNat, Int.reducePow, Nat.reducePow, i4, o4, i5, i10, i11, i12, o5, g1, hlen, e1, e2]) | (refine wk_intro (by kernel_rfl) ?_) | (refine vf_of (by first | exact c1 | exact c2) ?_))
        exact ⟨⟨i + 1, rfl, by omega, by rw [hlo', hhi', b1, b2]⟩, by omega⟩
theorem ball_Mul {a b c d : Rat} {L : Nat} (ha : szR a L) (hb : szR b L) (hc : szR c L) (hd : szR d L) (hL1 : 1 ≤ L) (hL : L ≤ 1000) :
    Go.Ev.Fn CX 191 [ballR a b, ballR c d] (ballR (loL (a * c) [a * d, b * c, b * d]) (hiL (a * c) [a * d, b * c, b * d])) := by
  have m1 := rat_Mul (RatA_rv ha) (RatA_rv hc) hL1 hL1 (by omega)
  have m2 := rat_Mul (RatA_rv ha) (RatA_rv hd) hL1 hL1 (by omega)
  have m3 := rat_Mul (RatA_rv hb) (RatA_rv hc) hL1 hL1 (by omega)
  have m4 := rat_Mul (RatA_rv hb) (RatA_rv hd) hL1 hL1 (by omega)
  have z1 := szR_mul ha hc hL1
  have z2 := szR_mul ha hd hL1
  have z3 := szR_mul hb hc hL1
  have z4 := szR_mul hb hd hL1
  generalize a * c = p1 at *
  generalize a * d = p2 at *
  generalize b * c = p3 at *
  generalize b * d = p4 at *
  have ar := ball_around (f := p1) (l := [p2, p3, p4]) (L := L + L) z1 (by
    intro x hx
    simp only [List.mem_cons, List.not_mem_nil, or_false] at hx
    rcases hx with rfl | rfl | rfl <;> assumption) (by omega) (by omega) (by simp)
  have ar' : Go.Ev.Fn CX 221 [rv p1, .sl 3 [.bool (decide (p2.num < 0)), natV (lim p2.num.natAbs), natV (lim p2.den), .bool (decide (p3.num < 0)), natV (lim p3.num.natAbs), natV (lim p3.den), .bool (decide (p4.num < 0)), natV (lim p4.num.natAbs), natV (lim p4.den)]] (ballR (loL p1 [p2, p3, p4]) (hiL p1 [p2, p3, p4])) := ar
  clear ar
  generalize loL p1 [p2, p3, p4] = lo at *
  generalize hiL p1 [p2, p3, p4] = hi at *
  refine Go.Ev.Fn.intro (fn := Tryz.f191) (body := (Tryz.f191).body.get!) (by kernel_rfl) (by kernel_rfl) (by kernel_rfl) (fun _ => rfl) (Nat.le_of_ble_eq_true (by kernel_rfl)) ?_; unfold Tryz.f191; simp only [Option.get!_some]
  repeat (first | (simp only [go_sem]) | (simp (disch := (first | omega | (simp only [AL, List.length_map]; omega))) only [AR, AL, ifT, ifF, take_all, List.length_cons, List.length_nil, Int.reduceToNat, Int.reducePow, Nat.reducePow]) | (refine wk_intro (by kernel_rfl) ?_) | (refine vp_draw (id := 1) (l := [25]) (by kernel_rfl) ?_) | (refine vf_of (by first | exact m1 | exact m2 | exact m3 | exact m4 | exact ar') ?_))
end Go.Proofs.YtecjelnpmcnbaaaGreat
namespace Go.Proofs.YtecjelnpmcnbaaaGreat
open Go.Ev
theorem p2_add (a b : Nat) : p2 (a + b) = p2 a * p2 b := by
  show ((2 ^ (a + b) : Nat) : Rat) = _
  rw [Nat.pow_add]
  exact_mod_cast rfl
theorem n_mul (a b : Nat) : ((a * b : Nat) : Rat) = (a : Rat) * (b : Rat) := by exact_mod_cast rfl
theorem n_le {a b : Nat} (h : a ≤ b) : (a : Rat) ≤ (b : Rat) := by exact_mod_cast h
def SQ : Rat := mkRat (rootPi : Int) (2 ^ 400)
theorem SQ_mul : SQ * p2 400 = (rootPi : Rat) := by
  unfold SQ
  rw [Rat.mkRat_eq_div]
  exact Rat.div_mul_cancel (by have : (0 : Rat) < p2 400 := p2_pos 400; grind)
theorem sq_split {p : Nat} (hp : p ≤ 800) : SQ * SQ * p2 p * p2 (800 - p) = ((rootPi * rootPi : Nat) : Rat) := by
  have h1 : p2 p * p2 (800 - p) = p2 400 * p2 400 := by rw [← p2_add, ← p2_add]; congr 1; omega
  have h2 : SQ * SQ * p2 p * p2 (800 - p) = SQ * SQ * (p2 p * p2 (800 - p)) := by grind
  have h3 : SQ * SQ * (p2 400 * p2 400) = (SQ * p2 400) * (SQ * p2 400) := by grind
  rw [h2, h1, h3, SQ_mul, n_mul]
theorem sq_lo {a p : Nat} (hp : p ≤ 800) (h : a * 2 ^ (800 - p) ≤ rootPi * rootPi) : (a : Rat) ≤ SQ * SQ * p2 p := by
  refine le_by (p2_pos (800 - p)) ?_
  rw [sq_split hp]
  have := n_le h
  rw [n_mul] at this
  exact this
theorem sq_hi {a p : Nat} (hp : p ≤ 800) (h : rootPi * rootPi ≤ a * 2 ^ (800 - p)) : SQ * SQ * p2 p ≤ (a : Rat) := by
  refine le_by (p2_pos (800 - p)) ?_
  rw [sq_split hp]
  have := n_le h
  rw [n_mul a] at this
  exact this
theorem sq_ge {a p : Nat} (hp : p ≤ 400) (h : rootPi * rootPi ≤ (a + 1) * 2 ^ (800 - p)) : 2 ^ p ≤ a := by
  have h1 : 2 * 2 ^ 800 ≤ rootPi * rootPi := by decide +kernel
  have h2 : 2 ^ 800 = 2 ^ p * 2 ^ (800 - p) := by rw [← Nat.pow_add]; congr 1; omega
  have h3 : 0 < 2 ^ (800 - p) := Nat.pow_pos (by omega)
  have h4 : 2 * 2 ^ p * 2 ^ (800 - p) ≤ (a + 1) * 2 ^ (800 - p) := by rw [Nat.mul_assoc, ← h2]; exact Nat.le_trans h1 h
  have h5 := Nat.le_of_mul_le_mul_right h4 h3
  have h6 : 0 < 2 ^ p := Nat.pow_pos (by omega)
  omega
theorem sq_mono {x y : Rat} (hx : 0 ≤ x) (hy : 0 ≤ y) (h : x * x ≤ y * y) : x ≤ y := by
  rcases Rat.le_total (a := x) (b := y) with g | g
  · exact g
  · by_cases e : y = x
    · rw [e]; exact Rat.le_refl
    · have h1 : y < x := by grind
      have h2 : y * y ≤ x * y := Rat.mul_le_mul_of_nonneg_right g hy
      have h3 : x * y < x * x := by
        have : 0 < x * (x - y) := Rat.mul_pos (by grind) (by grind)
        grind
      grind
end Go.Proofs.YtecjelnpmcnbaaaGreat
namespace Go.Proofs.YtecjelnpmcnbaaaGreat
open Go.Ev
theorem pi256 : piOk 256 = true := by kernel_rfl
theorem pi328 : piOk 328 = true := by kernel_rfl
theorem arcs_PiX {p : Nat} (h1 : 8 ≤ p) (h2 : p < 233 ∨ p = 256 ∨ p = 328) : ∃ a : Nat, Go.Ev.Fn CX 219 [.int .i64 (p : Int)] (ballR (mkRat (a : Int) (2 ^ p)) (mkRat ((a + 1 : Nat) : Int) (2 ^ p))) ∧ a * 2 ^ (800 - p) ≤ rootPi * rootPi ∧ rootPi * rootPi ≤ (a + 1) * 2 ^ (800 - p) := by
  have h : piOk p = true := by
    rcases h2 with h2 | rfl | rfl
    · exact allFrom_at pi_ok p h1 (by omega)
    · exact pi256
    · exact pi328
  unfold piOk at h
  split at h
  · rename_i lo hi hpi
    rw [pin_eq, Bool.and_eq_true, Bool.and_eq_true] at h
    obtain ⟨k1, k2, k3⟩ := h
    have k1 := Nat.eq_of_beq_eq_true k1
    have k2 := Nat.le_of_ble_eq_true k2
    have k3 := Nat.le_of_ble_eq_true k3
    obtain ⟨f, g1, g2⟩ := arcs_pi (by omega) (by omega) hpi
    have c := fix_Certain1 (p := p) (sp := 64) f (by omega) (by omega) (by omega) (by omega) (by omega) k1
    refine ⟨lo / 2 ^ 64, ?_, k2, k3⟩
    have hh := arcs_held (p : Int)
    rw [if_neg (by omega), if_neg (by omega)] at hh
    generalize mkRat ((lo / 2 ^ 64 : Nat) : Int) (2 ^ p) = q1 at *
    generalize mkRat ((lo / 2 ^ 64 + 1 : Nat) : Int) (2 ^ p) = q2 at *
    clear k2 k3 f hpi
    refine Go.Ev.Fn.intro (fn := Tryz.f219) (body := (Tryz.f219).body.get!) (by kernel_rfl) (by kernel_rfl) (by kernel_rfl) (fun _ => rfl) (Nat.le_of_ble_eq_true (by kernel_rfl)) ?_; unfold Tryz.f219; simp only [Option.get!_some]
    repeat (first | (simp only [go_sem]) | (simp (disch := (first | omega | (simp only [AL, List.length_map]; omega))) only [AR, AL, ifT, ifF, take_all, List.length_cons, List.length_nil, Int.reduceToNat, Int.reducePow, Nat.reducePow]) | (refine wk_intro (by kernel_rfl) ?_) | (refine vf_of (by first | exact hh | exact c) ?_))
  · cases h
end Go.Proofs.YtecjelnpmcnbaaaGreat
namespace Go.Proofs.YtecjelnpmcnbaaaGreat
open Go.Ev
theorem mk_p2 (a p : Nat) : mkRat (a : Int) (2 ^ p) * p2 p = (a : Rat) := mk_mulP (a : Int) (Nat.pow_pos (by omega))
theorem many_pi {d : Nat} (h1 : 8 ≤ d) (h2 : d < 233 ∨ d = 256 ∨ d = 328) : ∃ m1 m2 : Rat, Go.Ev.Fn CX 219 [.int .i64 (d : Int)] (ballR m1 m2) ∧ m1 ≤ SQ * SQ ∧ SQ * SQ ≤ m2 ∧ (m2 - m1) * p2 d ≤ 1 ∧ 1 ≤ m1 ∧ szR m1 40 ∧ szR m2 40 := by
  obtain ⟨a, f, g1, g2⟩ := arcs_PiX h1 h2
  have P := p2_pos d
  have e1 := mk_p2 a d
  have e2 := mk_p2 (a + 1) d
  have k1 := sq_lo (by omega) g1
  have k2 := sq_hi (a := a + 1) (by omega) g2
  have k3 := sq_ge (by omega) g2
  have hA : a ≤ 2 ^ (d + 4) := by
    have x1 : rootPi * rootPi ≤ 2 ^ 804 := by decide +kernel
    have x2 : 2 ^ 804 = 2 ^ (d + 4) * 2 ^ (800 - d) := by rw [← Nat.pow_add]; congr 1; omega
    rw [x2] at x1
    exact Nat.le_of_mul_le_mul_right (Nat.le_trans g1 x1) (Nat.pow_pos (by omega))
  have hp : 2 ^ d ≤ 2 ^ (d + 4) := Nat.pow_le_pow_right (by omega) (by omega)
  have hB : a + 1 ≤ 2 ^ (d + 5) := by
    have : 2 ^ (d + 5) = 2 ^ (d + 4) * 2 := by rw [← Nat.pow_succ]
    have := Nat.pow_pos (a := 2) (n := d + 4) (by omega)
    omega
  have lp := lim_len_p2 hp (by omega)
  have la := lim_len_p2 hA (by omega)
  have lb := lim_len_p2 hB (by omega)
  refine ⟨_, _, f, le_by P (by rw [e1]; exact k1), le_by P (by rw [e2]; exact k2), ?_, le_by P (by rw [e1, Rat.one_mul]; exact n_le k3), szR_nat la lp (by omega), szR_nat lb lp (by omega)⟩
  have e : ∀ a b c : Rat, (a - b) * c = a * c - b * c := by intro a b c; grind
  rw [e, e1, e2]
  have : ((a + 1 : Nat) : Rat) = (a : Rat) + 1 := by exact_mod_cast rfl
  rw [this]
  grind
section
variable {v : SV} {q : Rat} {roots pI : Int} {P : Nat}
end
end Go.Proofs.YtecjelnpmcnbaaaGreat
namespace Go.Proofs.YtecjelnpmcnbaaaGreat
open Go.Ev
section
variable {v : SV} {z : Rat} {L P w : Nat} {pI : Int}
theorem bell_nigh (hv : RatA v z L) (hL1 : 1 ≤ L) (hL : L ≤ 100) (h1 : -8 ≤ z) (h2 : z ≤ 8) : Go.Ev.Fn CX 183 [v] (.bool false) := by
  have zx := szR_of hv hL1
  have im := rat_Int (-8) (by omega)
  have ip := rat_Int 8 (by omega)
  have c1 := rat_Cmp hv (RatA_rv (int_szR (n := -8) (by omega))) hL1 (by omega) (by omega)
  have c2 := rat_Cmp hv (RatA_rv (int_szR (n := 8) (by omega))) hL1 (by omega) (by omega)
  have e1 : decide (cmpR z ((-8 : Int) : Rat) < 0) = false := by rw [cmpR_lt]; exact decide_eq_false (Rat.not_lt.2 h1)
  have e2 : decide (cmpR z ((8 : Int) : Rat) > 0) = false := by rw [cmpR_gt]; exact decide_eq_false (Rat.not_lt.2 h2)
  obtain ⟨s, n, d, rfl, -⟩ := hv
  generalize cmpR z ((-8 : Int) : Rat) = y1 at *
  generalize cmpR z ((8 : Int) : Rat) = y2 at *
  refine Go.Ev.Fn.intro (fn := Tryz.f183) (body := (Tryz.f183).body.get!) (by kernel_rfl) (by kernel_rfl) (by kernel_rfl) (fun _ => rfl) (Nat.le_of_ble_eq_true (by kernel_rfl)) ?_; unfold Tryz.f183; simp only [Option.get!_some]
  repeat (first | (simp only [go_sem, e1, e2]) | (simp (disch := (first | omega | (simp only [AL, List.length_map]; omega))) only [AR, AL, ifT, ifF, take_all, List.length_cons, List.length_nil, Int.reduceToNat, Int.reducePow, Nat.reducePow, e1, e2]) | (refine wk_intro (by kernel_rfl) ?_) | (refine vp_draw (id := 1) (l := []) (by kernel_rfl) ?_) | (refine vf_of (by first | exact im | exact c1 | exact ip | exact c2) ?_))
theorem bell_held (hpI : (pI ≤ 0 ∧ P = 0) ∨ pI = (P : Int)) (hP : P ≤ 200) : Go.Ev.Fn CX 185 [.int .i64 pI] (.int .i64 (P : Int)) := by
  have e1 : (if (0 : Int) > pI then (0 : Int) else pI) = (P : Int) := by split <;> omega
  have e2 : (if (200 : Int) < (P : Int) then (200 : Int) else (P : Int)) = (P : Int) := if_neg (by omega)
  refine Go.Ev.Fn.intro (fn := Tryz.f185) (body := (Tryz.f185).body.get!) (by kernel_rfl) (by kernel_rfl) (by kernel_rfl) (fun _ => rfl) (Nat.le_of_ble_eq_true (by kernel_rfl)) ?_; unfold Tryz.f185; simp only [Option.get!_some]
  repeat (first | (simp only [go_sem, e1, e2]) | (simp (disch := (first | omega | (simp only [AL, List.length_map]; omega))) only [AR, AL, ifT, ifF, take_all, List.length_cons, List.length_nil, Int.reduceToNat, Int.reducePow, Nat.reducePow, e1, e2]) | (refine wk_intro (by kernel_rfl) ?_))
theorem unN_mk (m w : Nat) : unN (mkRat (m : Int) (2 ^ w)) w = m := by
  have P : 0 < 2 ^ w := Nat.pow_pos (by omega)
  obtain ⟨q, hq⟩ : ∃ q, q = mkRat (m : Int) (2 ^ w) := ⟨_, rfl⟩
  have e := mk_p2 m w
  rw [← hq] at e ⊢
  have q0 : 0 ≤ q := by
    refine le_by (p2_pos w) ?_
    rw [e, Rat.zero_mul]; exact nat_nonneg m
  have nn : 0 ≤ q.num := Rat.num_nonneg.2 q0
  have d := Ex.denR q
  have k : ((q.num.natAbs * 2 ^ w : Nat) : Rat) = ((m * q.den : Nat) : Rat) := by
    rw [Ex.castmul, Ex.castmul, ← e]
    have : ((q.num.natAbs : Nat) : Rat) = (q.num : Rat) := by
      have h : ((q.num.natAbs : Nat) : Rat) = ((q.num.natAbs : Int) : Rat) := rfl
      rw [h, Int.natAbs_of_nonneg nn]
    rw [this, ← d]; grind
  have k2 := Ex.nat_inj k
  show q.num.natAbs * 2 ^ w / q.den = m
  rw [k2]
  exact Nat.mul_div_cancel _ q.den_pos
theorem exps_Exp0 {pI : Int} (hv : RatA v 0 L) (hL : L ≤ 100) : Go.Ev.Fn CX 152 [v, .int .i64 pI] (.tup [ballR 1 1, .bool true]) := by
  have n1 := rat_Norm hv (by omega)
  have im := rat_Int (-64) (by omega)
  have ip := rat_Int 64 (by omega)
  have i1 := rat_Int 1 (by omega)
  have z0 : szR 0 1 := szR_zero (by omega)
  have c1 := rat_Cmp (RatA_rv z0) (RatA_rv (int_szR (n := -64) (by omega))) (by omega) (by omega) (by omega)
  have c2 := rat_Cmp (RatA_rv z0) (RatA_rv (int_szR (n := 64) (by omega))) (by omega) (by omega) (by omega)
  have zr := rat_Zero (RatA_rv z0) (by omega) (by omega)
  rw [decide_eq_true rfl] at zr
  have o := ball_Of (RatA_rv (int_szR (n := 1) (by omega))) (by omega)
  rw [show ((1 : Int) : Rat) = 1 from rfl] at i1 o
  have e1 : decide (cmpR 0 ((-64 : Int) : Rat) < 0) = false := by rw [cmpR_lt]; decide +kernel
  have e2 : decide (cmpR 0 ((64 : Int) : Rat) > 0) = false := by rw [cmpR_gt]; decide +kernel
  obtain ⟨s, n, d, rfl, -⟩ := hv
  generalize cmpR 0 ((-64 : Int) : Rat) = y1 at *
  generalize cmpR 0 ((64 : Int) : Rat) = y2 at *
  refine Go.Ev.Fn.intro (fn := Tryz.f152) (body := (Tryz.f152).body.get!) (by kernel_rfl) (by kernel_rfl) (by kernel_rfl) (fun _ => rfl) (Nat.le_of_ble_eq_true (by kernel_rfl)) ?_; unfold Tryz.f152; simp only [Option.get!_some]
  repeat (first | (simp only [go_sem, e1, e2]) | (simp (disch := (first | omega | (simp only [AL, List.length_map]; omega))) only [AR, AL, ifT, ifF, take_all, List.length_cons, List.length_nil, Int.reduceToNat, Int.reducePow, Nat.reducePow, e1, e2]) | (refine wk_intro (by kernel_rfl) ?_) | (refine vp_draw (id := 2) (l := []) (by kernel_rfl) ?_) | (refine vf_of (by first | exact n1 | exact im | exact c1 | exact ip | exact c2 | exact zr | exact i1 | exact o) ?_))
theorem bell_fall (hv : RatA v z L) (hL1 : 1 ≤ L) (hL : L ≤ 100) (h1 : -64 ≤ z) (h2 : z ≤ 0) (hd : z.den ≤ 2 ^ 240) (hw : w ≤ 512) :
    ∃ A B : Nat, A ≤ B ∧ B ≤ A + 2 ∧ B ≤ 2 ^ w + 2 ∧ Go.Ev.Fn CX 217 [v, .int .i64 (w : Int)] (spanV A B) ∧ ∃ s0, ∀ L, s0 ≤ L → Enc w A B (evX z L) := by
  have P := p2_pos w
  by_cases h0 : z = 0
  · subst h0
    have ex := exps_Exp0 (pI := (w : Int)) hv hL
    have fb := fix_Ball (w := w) (lo := 1) (hi := 1) (L := 1) ⟨lim_len_lt (by decide +kernel), lim_len_lt (by decide +kernel)⟩ ⟨lim_len_lt (by decide +kernel), lim_len_lt (by decide +kernel)⟩ (by omega) (by omega)
    have u : unN 1 w = 2 ^ w := by show (1 : Rat).num.natAbs * 2 ^ w / (1 : Rat).den = _; rw [show (1 : Rat).num.natAbs = 1 from rfl, show (1 : Rat).den = 1 from rfl, Nat.one_mul, Nat.div_one]
    rw [u] at fb
    refine ⟨2 ^ w, 2 ^ w + 1, by omega, by omega, by omega, ?_, 1, fun L hL => ?_⟩
    · obtain ⟨s, n, d, rfl, -⟩ := hv
      generalize 2 ^ w = y at *
      refine Go.Ev.Fn.intro (fn := Tryz.f217) (body := (Tryz.f217).body.get!) (by kernel_rfl) (by kernel_rfl) (by kernel_rfl) (fun _ => rfl) (Nat.le_of_ble_eq_true (by kernel_rfl)) ?_; unfold Tryz.f217; simp only [Option.get!_some]
      repeat (first | (simp only [go_sem]) | (simp (disch := (first | omega | (simp only [AL, List.length_map]; omega))) only [AR, AL, ifT, ifF, take_all, List.length_cons, List.length_nil, Int.reduceToNat, Int.reducePow, Nat.reducePow]) | (refine wk_intro (by kernel_rfl) ?_) | (refine vf_of (by first | exact ex | exact fb) ?_))
    · have e : evX 0 L = 1 := by
        unfold evX
        rw [if_neg (by decide)]
        obtain ⟨k, rfl⟩ : ∃ k, L = k + 1 := ⟨L - 1, by omega⟩
        exact Ex.E_zero k
      rw [e]
      refine ⟨by rw [Rat.one_mul]; exact Rat.le_refl, ?_⟩
      rw [Rat.one_mul]
      exact_mod_cast Nat.le_succ (2 ^ w)
  · have hneg : z < 0 := by grind
    obtain ⟨m, lm, fn, s0, hs⟩ := exps_Exp (P := w) (pI := (w : Int)) hv hL1 hL h0 h1 (by grind) hd hw (.inr rfl)
    have hm : m ≤ 2 ^ w := by
      have e := (hs (s0 + 1) (by omega)).1
      have one := E_one (x := -z) (by grind) (L := s0 + 1) (by omega)
      have i : Ex.E (-z) (s0 + 1) * (1 / Ex.E (-z) (s0 + 1)) = 1 := Ex.mul_div _ 1 (by grind)
      have i0 : 0 ≤ 1 / Ex.E (-z) (s0 + 1) := Ex.div_nn (by decide) (by grind)
      have le1 : 1 / Ex.E (-z) (s0 + 1) ≤ 1 := by
        have := Rat.mul_le_mul_of_nonneg_right one i0
        rw [i, Rat.one_mul] at this; exact this
      unfold evX at e
      rw [if_pos hneg] at e
      have k := Rat.le_trans e (Rat.mul_le_mul_of_nonneg_right le1 (Rat.le_of_lt P))
      rw [Rat.one_mul] at k
      exact_mod_cast k
    have lp := lim_len_pw (n := 2 ^ w) (w := w + 1) (by rw [Nat.pow_succ]; have : 0 < 2 ^ w := Nat.pow_pos (by omega); omega)
    have lm2 := lim_len_pw (n := m + 1) (w := w + 2) (by rw [Nat.pow_add]; have : 0 < 2 ^ w := Nat.pow_pos (by omega); omega)
    have lm1 : (lim m).length ≤ (lim (m + 1)).length := lim_len_mono (Nat.le_succ m)
    have z1 : szR (mkRat (m : Int) (2 ^ w)) 20 := szR_nat (by omega) (by omega) (by omega)
    have z2 : szR (mkRat ((m + 1 : Nat) : Int) (2 ^ w)) 20 := szR_nat (by omega) (by omega) (by omega)
    have fb := fix_Ball (w := w) z1 z2 (by omega) (by omega)
    rw [unN_mk, unN_mk] at fb
    refine ⟨m, m + 2, by omega, by omega, by omega, ?_, s0, fun L hL => ?_⟩
    · clear hs z1 z2 hd h1 h2 h0 hneg
      obtain ⟨s, n, d, rfl, -⟩ := hv
      generalize mkRat (m : Int) (2 ^ w) = q1 at *
      generalize mkRat ((m + 1 : Nat) : Int) (2 ^ w) = q2 at *
      refine Go.Ev.Fn.intro (fn := Tryz.f217) (body := (Tryz.f217).body.get!) (by kernel_rfl) (by kernel_rfl) (by kernel_rfl) (fun _ => rfl) (Nat.le_of_ble_eq_true (by kernel_rfl)) ?_; unfold Tryz.f217; simp only [Option.get!_some]
      repeat (first | (simp only [go_sem]) | (simp (disch := (first | omega | (simp only [AL, List.length_map]; omega))) only [AR, AL, ifT, ifF, take_all, List.length_cons, List.length_nil, Int.reduceToNat, Int.reducePow, Nat.reducePow]) | (refine wk_intro (by kernel_rfl) ?_) | (refine vf_of (by first | exact fn | exact fb) ?_))
    · exact enc_wider (n := 1) (hs L hL)
theorem unN_lt {q : Rat} (h0 : 0 ≤ q) (w : Nat) : q * p2 w < ((unN q w + 1 : Nat) : Rat) := by
  have d := Ex.denR q
  have dR : (0 : Rat) < (q.den : Rat) := by exact_mod_cast q.den_pos
  have nn : 0 ≤ q.num := Rat.num_nonneg.2 h0
  have k := Nat.lt_mul_div_succ (q.num.natAbs * 2 ^ w) q.den_pos
  have k2 := Ex.castlt k
  rw [Ex.castmul, Ex.castmul] at k2
  have e : ((q.num.natAbs : Nat) : Rat) = (q.num : Rat) := by
    have h : ((q.num.natAbs : Nat) : Rat) = ((q.num.natAbs : Int) : Rat) := rfl
    rw [h, Int.natAbs_of_nonneg nn]
  rw [e, ← d] at k2
  refine Rat.not_le.1 fun hc => ?_
  have m := Rat.mul_le_mul_of_nonneg_right hc (Rat.le_of_lt dR)
  have k3 : q * (q.den : Rat) * p2 w < (q.den : Rat) * ((unN q w + 1 : Nat) : Rat) := k2
  grind
theorem unN_mono {p q : Rat} (h0 : 0 ≤ p) (h : p ≤ q) (w : Nat) : unN p w ≤ unN q w := by
  have a := (unN_le h0 w).1
  have b := (unN_lt (show 0 ≤ q by grind) w)
  have m := Rat.mul_le_mul_of_nonneg_right h (Rat.le_of_lt (p2_pos w))
  have k : ((unN p w : Nat) : Rat) < ((unN q w + 1 : Nat) : Rat) := by grind
  have k2 : unN p w < unN q w + 1 := by exact_mod_cast k
  omega
theorem lohi1 {c lo hi : Rat} (hc : 0 ≤ c) (g : lo ≤ hi) : loL (c * lo) [c * hi, c * lo, c * hi] = c * lo ∧ hiL (c * lo) [c * hi, c * lo, c * hi] = c * hi := by
  have g2 := Rat.mul_le_mul_of_nonneg_left g hc
  generalize c * lo = u at *
  generalize c * hi = v at *
  constructor
  · simp only [loL, List.foldl_cons, List.foldl_nil, mnR]
    repeat (first | rw [if_neg (by grind)] | rfl)
  · simp only [hiL, List.foldl_cons, List.foldl_nil, mxR]
    by_cases e : u < v
    · rw [if_pos e, if_neg (show ¬ v < u by grind), if_neg (show ¬ v < v by grind)]
    · rw [if_neg e, if_neg (show ¬ u < u by grind), if_neg e]; grind
theorem fix_RatS {s : Bool} {n d : Nat} (hd : 0 < d) (ln : (lim n).length ≤ 1000) (ld : (lim d).length ≤ 1000) (hw : w ≤ 10000) : Go.Ev.Fn CX 228 [ratV s (lim n) (lim d), .int .i64 (w : Int)] (spanV (n * 2 ^ w / d) (n * 2 ^ w / d + 1)) := by
  have of := fix_Of (n := n) (d := d) (w := w) (by omega) (by omega) (by omega) (by omega)
  generalize n * 2 ^ w / d = x at *
  refine Go.Ev.Fn.intro (fn := Tryz.f228) (body := (Tryz.f228).body.get!) (by kernel_rfl) (by kernel_rfl) (by kernel_rfl) (fun _ => rfl) (Nat.le_of_ble_eq_true (by kernel_rfl)) ?_; unfold Tryz.f228; simp only [Option.get!_some]
  repeat (first | (simp only [go_sem]) | (simp (disch := (first | omega | (simp only [AL, List.length_map]; omega))) only [AR, AL, ifT, ifF, take_all, List.length_cons, List.length_nil, Int.reduceToNat, Int.reducePow, Nat.reducePow]) | (refine wk_intro (by kernel_rfl) ?_) | (refine vf_of (by first | exact of) ?_))
end
end Go.Proofs.YtecjelnpmcnbaaaGreat
namespace Go.Proofs.YtecjelnpmcnbaaaGreat
open Go.Ev
theorem ball_Neg {a b : Rat} {L : Nat} (ha : szR a L) (hb : szR b L) (hL1 : 1 ≤ L) (hL : L ≤ 100000) : Go.Ev.Fn CX 189 [ballR a b] (ballR (-b) (-a)) := by
  have n1 := rat_Neg (RatA_rv ha) hL1 (by omega)
  have n2 := rat_Neg (RatA_rv hb) hL1 (by omega)
  generalize -a = u at *
  generalize -b = w at *
  refine Go.Ev.Fn.intro (fn := Tryz.f189) (body := (Tryz.f189).body.get!) (by kernel_rfl) (by kernel_rfl) (by kernel_rfl) (fun _ => rfl) (Nat.le_of_ble_eq_true (by kernel_rfl)) ?_; unfold Tryz.f189; simp only [Option.get!_some]
  repeat (first | (simp only [go_sem]) | (simp (disch := (first | omega | (simp only [AL, List.length_map]; omega))) only [AR, AL, ifT, ifF, take_all, List.length_cons, List.length_nil, Int.reduceToNat, Int.reducePow, Nat.reducePow]) | (refine wk_intro (by kernel_rfl) ?_) | (refine vp_draw (id := 1) (l := []) (by kernel_rfl) ?_) | (refine vf_of (by first | exact n2 | exact n1) ?_))
theorem ball_Add {a b c d : Rat} {L M : Nat} (ha : szR a L) (hb : szR b L) (hc : szR c M) (hd : szR d M) (hL1 : 1 ≤ L) (hM1 : 1 ≤ M) (hL : L + M ≤ 100000) : Go.Ev.Fn CX 190 [ballR a b, ballR c d] (ballR (a + c) (b + d)) := by
  have s1 := rat_Add (RatA_rv ha) (RatA_rv hc) hL1 hM1 (by omega)
  have s2 := rat_Add (RatA_rv hb) (RatA_rv hd) hL1 hM1 (by omega)
  generalize a + c = x at *
  generalize b + d = y at *
  refine Go.Ev.Fn.intro (fn := Tryz.f190) (body := (Tryz.f190).body.get!) (by kernel_rfl) (by kernel_rfl) (by kernel_rfl) (fun _ => rfl) (Nat.le_of_ble_eq_true (by kernel_rfl)) ?_; unfold Tryz.f190; simp only [Option.get!_some]
  repeat (first | (simp only [go_sem]) | (simp (disch := (first | omega | (simp only [AL, List.length_map]; omega))) only [AR, AL, ifT, ifF, take_all, List.length_cons, List.length_nil, Int.reduceToNat, Int.reducePow, Nat.reducePow]) | (refine wk_intro (by kernel_rfl) ?_) | (refine vp_draw (id := 1) (l := []) (by kernel_rfl) ?_) | (refine vf_of (by first | exact s1 | exact s2) ?_))
theorem rv_neg (z : Rat) : ∃ s : Bool, rv (-z) = ratV s (lim z.num.natAbs) (lim z.den) := by
  refine ⟨decide ((-z).num < 0), ?_⟩
  show ratV (decide ((-z).num < 0)) (lim (-z).num.natAbs) (lim (-z).den) = _
  rw [Rat.neg_num, Rat.neg_den, Int.natAbs_neg]
theorem two_len : szR 2 1 := ⟨lim_len_lt (by decide +kernel), lim_len_lt (by decide +kernel)⟩
theorem den_le {q : Rat} {L : Nat} (h : szR q L) (hL : L ≤ 7) : q.den ≤ 2 ^ 240 := by
  have a : q.den < 4294967296 ^ (lim q.den).length := lim_len_pow
  have b : 4294967296 ^ (lim q.den).length ≤ 4294967296 ^ 7 := Nat.pow_le_pow_right (by omega) (Nat.le_trans h.2 hL)
  have c : 4294967296 ^ 7 ≤ 2 ^ 240 := by decide +kernel
  omega
theorem num_le8 {z : Rat} (h0 : 0 ≤ z) (h : z ≤ 8) : z.num.natAbs ≤ 8 * z.den := by
  have d := Ex.denR z
  have dR : (0 : Rat) < (z.den : Rat) := by exact_mod_cast z.den_pos
  have nn : 0 ≤ z.num := Rat.num_nonneg.2 h0
  have m := Rat.mul_le_mul_of_nonneg_right h (Rat.le_of_lt dR)
  rw [d] at m
  have k : z.num ≤ 8 * (z.den : Int) := by
    have : (z.num : Rat) ≤ ((8 * (z.den : Int) : Int) : Rat) := by rw [Rat.intCast_mul]; exact m
    exact Rat.intCast_le_intCast.1 this
  omega
theorem neg64 {q : Rat} (h0 : 0 ≤ q) (h : q ≤ 64) : -64 ≤ -q ∧ -q ≤ 0 := by constructor <;> grind
theorem sq_same {y z : Rat} (h : y = z ∨ y = -z) : y * y = z * z := by rcases h with rfl | rfl <;> grind
theorem sq_bd {z : Rat} (h0 : 0 ≤ z) (h : z ≤ 8) : 0 ≤ z * z ∧ z * z ≤ 64 := by
  have a := Rat.mul_nonneg h0 h0
  have b := Rat.mul_le_mul_of_nonneg_left h h0
  exact ⟨a, by grind⟩
section
variable {z : Rat} {w P : Nat} {pI : Int}
end
end Go.Proofs.YtecjelnpmcnbaaaGreat
namespace Go.Proofs.YtecjelnpmcnbaaaGreat
open Go.Ev
theorem half_div : ((1 : Int) : Rat) / ((2 : Int) : Rat) = 1 / 2 := rfl
theorem hlf_len : szR (1 / 2) 1 := ⟨lim_len_lt (by decide +kernel), lim_len_lt (by decide +kernel)⟩
theorem told_span {A B w p : Nat} (hAB : A ≤ B) (hB : B < 2 ^ (w + 10040)) (hp : p < w) (hw : w ≤ 500) :
    ∃ l h : Rat, l ≤ h ∧ 0 ≤ l ∧ szR l 400 ∧ szR h 400 ∧ l = mkRat ((A / 2 ^ (w - p) : Nat) : Int) (2 ^ p) ∧ h = mkRat ((B / 2 ^ (w - p) + 1 : Nat) : Int) (2 ^ p) ∧ Go.Ev.Fn CX 186 [spanV A B, .int .i64 (w : Int), .int .i64 (p : Int)] (ballR l h) := by
  have lB := lim_len_pw hB
  have lA := lim_len_mono hAB
  have t := fix_Told (a := A) (b := B) (w := w) (p := p) (by omega) (by omega) hp (by omega)
  have P := p2_pos p
  have a := mk_p2 (A / 2 ^ (w - p)) p
  have b := mk_p2 (B / 2 ^ (w - p) + 1) p
  have d : A / 2 ^ (w - p) ≤ B / 2 ^ (w - p) + 1 := Nat.le_succ_of_le (Nat.div_le_div_right hAB)
  have l1 := lim_len_mono (Nat.div_le_self A (2 ^ (w - p)))
  have l2 := lim_len_mono (Nat.div_le_self B (2 ^ (w - p)))
  have l3 := lim_len_add (a := B / 2 ^ (w - p)) (b := 1) (L := 399) (by omega) (by have := lim_len1; omega)
  have lp := lim_len_shl (a := 1) (n := p)
  rw [Nat.one_mul] at lp
  have lo := lim_len1
  refine ⟨_, _, le_by P ?_, le_by P ?_, szR_nat (by omega) (by omega) (by omega), szR_nat (by omega) (by omega) (by omega), rfl, rfl, t⟩
  · rw [a, b]; exact Ex.castle d
  · rw [a, Rat.zero_mul]; exact nat_nonneg _
section
variable {z : Rat} {P : Nat} {pI : Int}
theorem num_neg_iff {x : Rat} (h : 0 < x) : decide (x.num < 0) = false ∧ decide ((-x).num < 0) = true := by
  have a := neg_numX (x := x)
  have b := neg_numX (x := -x)
  rw [decide_eq_false (show ¬ x < 0 by grind)] at a
  rw [decide_eq_true (show -x < 0 by grind)] at b
  exact ⟨a, b⟩
theorem bell_Phi0 {v : SV} (hv : RatA v 0 3) : Go.Ev.Fn CX 149 [v, .int .i64 pI] (.tup [ballR (1 / 2) (1 / 2), .bool true]) := by
  have z0 : szR 0 3 := szR_zero (by omega)
  have fr := bell_nigh hv (by omega) (by omega) (by decide +kernel) (by decide +kernel)
  have nm := rat_Norm hv (by omega)
  have zr := rat_Zero (RatA_rv z0) (by omega) (by omega)
  rw [decide_eq_true rfl] at zr
  have i1 := rat_Int 1 (by omega)
  have i2 := rat_Int 2 (by omega)
  have dv := rat_Div (RatA_rv (int_szR (n := 1) (by omega))) (RatA_rv (int_szR (n := 2) (by omega))) (by omega) (by omega) (by omega)
  rw [half_div, decide_eq_true (show ¬ ((2 : Int) : Rat) = 0 by decide)] at dv
  have oh := ball_Of (RatA_rv hlf_len) (by omega)
  obtain ⟨s, n, d, rfl, -⟩ := hv
  generalize (1 / 2 : Rat) = hf at *
  refine Go.Ev.Fn.intro (fn := Tryz.f149) (body := (Tryz.f149).body.get!) (by kernel_rfl) (by kernel_rfl) (by kernel_rfl) (fun _ => rfl) (Nat.le_of_ble_eq_true (by kernel_rfl)) ?_; unfold Tryz.f149; simp only [Option.get!_some]
  repeat (first | (simp only [go_sem]) | (simp (disch := (first | omega | (simp only [AL, List.length_map]; omega))) only [AR, AL, ifT, ifF, take_all, List.length_cons, List.length_nil, Int.reduceToNat, Int.reducePow, Nat.reducePow]) | (refine wk_intro (by kernel_rfl) ?_) | (refine vp_draw (id := 8) (l := []) (by kernel_rfl) ?_) | (refine vp_draw (id := 11) (l := []) (by kernel_rfl) ?_) | (refine vf_of (by first | exact fr | exact nm | exact i1 | exact i2 | exact dv | exact zr | exact oh) ?_))
end
end Go.Proofs.YtecjelnpmcnbaaaGreat
namespace Go.Proofs.YtecjelnpmcnbaaaGreat
open Go.Ev
theorem mulS {w a b c d α β γ δ : Nat} (h1 : a ≤ b) (h2 : c ≤ d) (h3 : b ≤ α * 2 ^ w) (h4 : d ≤ β * 2 ^ w) (h5 : b ≤ a + γ) (h6 : d ≤ c + δ) :
    a * c / 2 ^ w ≤ b * d / 2 ^ w + 1 ∧ b * d / 2 ^ w + 1 ≤ (α * β + 1) * 2 ^ w ∧ b * d / 2 ^ w + 1 ≤ a * c / 2 ^ w + (γ * β + α * δ + 2) := by
  have P : 0 < 2 ^ w := Nat.pow_pos (by omega)
  refine ⟨Nat.le_succ_of_le (Nat.div_le_div_right (Nat.mul_le_mul h1 h2)), ?_, ?_⟩
  · have m := Nat.mul_le_mul h3 h4
    have q : b * d / 2 ^ w ≤ α * β * 2 ^ w := by
      refine (Nat.div_le_iff_le_mul P).2 ?_
      have e : α * 2 ^ w * (β * 2 ^ w) = α * β * 2 ^ w * 2 ^ w := by generalize 2 ^ w = z; grind
      omega
    rw [Nat.add_mul]; omega
  · have m1 : b * d ≤ (a + γ) * d := Nat.mul_le_mul_right _ h5
    have m2 : a * d ≤ a * (c + δ) := Nat.mul_le_mul_left _ h6
    have m3 : γ * d ≤ γ * (β * 2 ^ w) := Nat.mul_le_mul_left _ h4
    have m4 : a * δ ≤ α * 2 ^ w * δ := Nat.mul_le_mul_right _ (Nat.le_trans h1 h3)
    have e1 : (γ * β + α * δ) * 2 ^ w = γ * (β * 2 ^ w) + α * 2 ^ w * δ := by rw [Nat.add_mul, Nat.mul_assoc γ, Nat.mul_right_comm α δ]
    rw [Nat.add_mul] at m1
    rw [Nat.mul_add] at m2
    have h := Nat.div_le_div_right (c := 2 ^ w) (show b * d ≤ a * c + (γ * β + α * δ) * 2 ^ w by omega)
    rw [Nat.add_mul_div_right _ _ P] at h
    omega
theorem told_in {A B w q : Nat} {V : Rat} (hq : q ≤ w) (h : Enc w A B V) : mkRat ((A / 2 ^ (w - q) : Nat) : Int) (2 ^ q) ≤ V ∧ V ≤ mkRat ((B / 2 ^ (w - q) + 1 : Nat) : Int) (2 ^ q) := by
  have P := p2_pos q
  have R := p2_pos (w - q)
  have a := mk_p2 (A / 2 ^ (w - q)) q
  have b := mk_p2 (B / 2 ^ (w - q) + 1) q
  have f := floor_le (a := A) (d := 2 ^ (w - q))
  have g := le_floor (a := B) (d := 2 ^ (w - q)) (Nat.pow_pos (by omega))
  have e : p2 w = p2 q * p2 (w - q) := by rw [← p2_plus]; congr 1; omega
  obtain ⟨h1, h2⟩ := h
  rw [e, ← Rat.mul_assoc] at h1 h2
  refine ⟨le_by P (le_by R ?_), le_by P (le_by R ?_)⟩
  · rw [a]; exact Rat.le_trans f h1
  · rw [b]; exact Rat.le_trans h2 g
theorem told_thin {A B w p : Nat} (hq : p + 2 ≤ w) (h : B ≤ A + 2 ^ (w - (p + 2))) : (mkRat ((B / 2 ^ (w - (p + 2)) + 1 : Nat) : Int) (2 ^ (p + 2)) - mkRat ((A / 2 ^ (w - (p + 2)) : Nat) : Int) (2 ^ (p + 2))) * p2 p ≤ 1 := by
  have a := mk_p2 (A / 2 ^ (w - (p + 2))) (p + 2)
  have b := mk_p2 (B / 2 ^ (w - (p + 2)) + 1) (p + 2)
  have P : 0 < 2 ^ (w - (p + 2)) := Nat.pow_pos (by omega)
  have d := Nat.div_le_div_right (c := 2 ^ (w - (p + 2))) h
  rw [Nat.add_div_right _ P] at d
  have d2 : B / 2 ^ (w - (p + 2)) + 1 ≤ A / 2 ^ (w - (p + 2)) + 4 := by omega
  have d3 : ((B / 2 ^ (w - (p + 2)) + 1 : Nat) : Rat) ≤ ((A / 2 ^ (w - (p + 2)) : Nat) : Rat) + 4 := by
    have := Ex.castle d2
    rw [Ex.castadd (A / 2 ^ (w - (p + 2))) 4] at this; exact this
  rw [← a, ← b] at d3
  have e : p2 (p + 2) = p2 p * 4 := by rw [p2_plus]; rfl
  rw [e] at d3
  generalize mkRat ((B / 2 ^ (w - (p + 2)) + 1 : Nat) : Int) (2 ^ (p + 2)) = x at *
  generalize mkRat ((A / 2 ^ (w - (p + 2)) : Nat) : Int) (2 ^ (p + 2)) = y at *
  grind
def wSt (W D : Nat) : Nat → Nat → Nat → Nat → Nat → Nat → Nat × Nat × Nat × Nat
  | 0, _, t, d, s, e => (t, d, s, e)
  | f + 1, k, t, d, s, e => pin (k + 2) fun k' => pin (t * W / k + 2) fun t' => pin ((d * W + t * D) / k + 8) fun d' => pin (s + t') fun s' => pin (e + d') fun e' => wSt W D f k' t' d' s' e'
theorem wSt_succ (W D f k t d s e : Nat) : wSt W D (f + 1) k t d s e = wSt W D f (k + 2) (t * W / k + 2) ((d * W + t * D) / k + 8) (s + (t * W / k + 2)) (e + ((d * W + t * D) / k + 8)) := by
  rw [wSt, pin_eq, pin_eq, pin_eq, pin_eq, pin_eq]
theorem wRow_late : ∀ (f k t d s e : Nat), 600 ≤ k → t ≤ 4 → d ≤ 20 → (wRow 129 41 f k t d s e).1 ≤ s + 4 * f ∧ (wRow 129 41 f k t d s e).2 ≤ e + 20 * f
  | 0, k, t, d, s, e, _, _, _ => ⟨Nat.le_refl _, Nat.le_refl _⟩
  | f + 1, k, t, d, s, e, h1, h2, h3 => by
    have a : t * 129 / k ≤ 0 := Nat.le_of_lt_succ ((Nat.div_lt_iff_lt_mul (by omega)).2 (by omega))
    have b : (d * 129 + t * 41) / k ≤ 4 := Nat.le_of_lt_succ ((Nat.div_lt_iff_lt_mul (by omega)).2 (by omega))
    have ih := wRow_late f (k + 2) (t * 129 / k + 2) ((d * 129 + t * 41) / k + 8) (s + (t * 129 / k + 2)) (e + ((d * 129 + t * 41) / k + 8)) (by omega) (by omega) (by omega)
    rw [wRow_succ]
    exact ⟨Nat.le_trans ih.1 (by omega), Nat.le_trans ih.2 (by omega)⟩
theorem wRow_st : ∀ (m f k t d s e : Nat) {t' d' s' e' : Nat}, wSt 129 41 m k t d s e = (t', d', s', e') → t' ≤ 4 → d' ≤ 20 → 600 ≤ k + 2 * m → (wRow 129 41 (m + f) k t d s e).1 ≤ s' + 4 * f ∧ (wRow 129 41 (m + f) k t d s e).2 ≤ e' + 20 * f
  | 0, f, k, t, d, s, e, t', d', s', e', h, h1, h2, h3 => by
    have h' : (t, d, s, e) = (t', d', s', e') := h
    simp only [Prod.mk.injEq] at h'
    obtain ⟨rfl, rfl, rfl, rfl⟩ := h'
    rw [Nat.zero_add]
    exact wRow_late f k t d s e (by omega) h1 h2
  | m + 1, f, k, t, d, s, e, t', d', s', e', h, h1, h2, h3 => by
    rw [wSt_succ] at h
    rw [show m + 1 + f = m + f + 1 by omega, wRow_succ]
    exact wRow_st m f (k + 2) _ _ _ _ h h1 h2 (by omega)
end Go.Proofs.YtecjelnpmcnbaaaGreat
namespace Go.Ev
end Go.Ev
namespace Go.Proofs.YtecjelnpmcnbaaaGreat
open Go.Ev
end Go.Proofs.YtecjelnpmcnbaaaGreat
namespace Go.Proofs.YtecjelnpmcnbaaaGreat
open Go.Ev
section
variable {w Y1 Y2 : Nat}
end
end Go.Proofs.YtecjelnpmcnbaaaGreat
namespace Go.Proofs.YtecjelnpmcnbaaaGreat
open Go.Ev
section
variable {N D w n : Nat}
end
end Go.Proofs.YtecjelnpmcnbaaaGreat
namespace Go.Proofs.YtecjelnpmcnbaaaGreat
open Go.Ev
theorem inv_ball {lo hi : Rat} {w g : Nat} (h1 : 1 ≤ lo) (h2 : lo ≤ hi) (h3 : (hi - lo) * p2 w ≤ (g : Rat)) (hg : g + 2 ≤ 2 ^ w) (hw : 1 ≤ w) :
    2 ^ (2 * w) / (unN hi w + 1) ≤ 2 ^ (2 * w) / unN lo w + 1 ∧ 2 ^ (2 * w) / unN lo w + 1 ≤ 2 * 2 ^ w ∧ 2 ^ (2 * w) / unN lo w + 1 ≤ 2 ^ (2 * w) / (unN hi w + 1) + (g + 4) ∧ 2 ^ w ≤ unN lo w ∧ unN hi w + 1 ≤ unN lo w + (g + 2) := by
  have P : 0 < 2 ^ w := Nat.pow_pos (by omega)
  have pp : 2 ^ (2 * w) = 2 ^ w * 2 ^ w := by rw [← Nat.pow_add]; congr 1; omega
  have u1 := unN_le (show 0 ≤ lo by grind) w
  have u2 := unN_le (show 0 ≤ hi by grind) w
  have W := p2_pos w
  have lo1 : 2 ^ w ≤ unN lo w := by
    have a : p2 w < ((unN lo w + 1 : Nat) : Rat) := by
      have := unN_lt (show 0 ≤ lo by grind) w
      have m := Rat.mul_le_mul_of_nonneg_right h1 (Rat.le_of_lt W)
      grind
    have a2 : 2 ^ w < unN lo w + 1 := by exact_mod_cast a
    omega
  have d : unN hi w + 1 ≤ unN lo w + (g + 2) := by
    have a : ((unN hi w : Nat) : Rat) < ((unN lo w + 1 + g : Nat) : Rat) := by
      have := unN_lt (show 0 ≤ lo by grind) w
      rw [Ex.castadd (unN lo w + 1) g]
      grind
    have a2 : unN hi w < unN lo w + 1 + g := by exact_mod_cast a
    omega
  have m := unN_mono (show 0 ≤ lo by grind) h2 w
  obtain ⟨i1, i2, i3⟩ := inv_gapE (M := 2 ^ (2 * w)) (lo := unN lo w) (hi := unN hi w + 1) (W := 2 ^ w) P pp lo1 (by omega) (by omega)
  exact ⟨by omega, by omega, by omega, lo1, d⟩
section
variable {N D w n : Nat}
end
end Go.Proofs.YtecjelnpmcnbaaaGreat
namespace Go.Proofs.YtecjelnpmcnbaaaGreat
open Go.Ev
theorem ev_le1 {z : Rat} (h : z < 0) {L : Nat} (hL : 1 ≤ L) : evX z L ≤ 1 ∧ 0 ≤ evX z L := by
  unfold evX
  rw [if_pos h]
  have one := E_one (x := -z) (by grind) hL
  have i : Ex.E (-z) L * (1 / Ex.E (-z) L) = 1 := Ex.mul_div _ 1 (by grind)
  have i0 : 0 ≤ 1 / Ex.E (-z) L := Ex.div_nn (by decide) (by grind)
  have := Rat.mul_le_mul_of_nonneg_right one i0
  rw [i, Rat.one_mul] at this
  exact ⟨this, i0⟩
section
variable {v : SV} {x : Rat} {n P : Nat} {pI : Int}
end
end Go.Proofs.YtecjelnpmcnbaaaGreat
namespace Go.Proofs.YtecjelnpmcnbaaaGreat
open Go.Ev
section
variable {v : SV} {x : Rat} {w n : Nat}
end
end Go.Proofs.YtecjelnpmcnbaaaGreat
namespace Go.Proofs.YtecjelnpmcnbaaaGreat
open Go.Ev
theorem num_den' (q : Rat) : q * (q.den : Rat) = (q.num : Rat) := by
  have h : mkRat q.num q.den * (q.den : Rat) = (q.num : Rat) := by
    rw [Rat.mkRat_eq_div]
    refine Rat.div_mul_cancel ?_
    have : (0 : Rat) < (q.den : Rat) := by exact_mod_cast q.den_pos
    grind
  rwa [Rat.mkRat_self] at h
section
variable {x : Rat} {A B w : Nat}
end
end Go.Proofs.YtecjelnpmcnbaaaGreat
namespace Go.Proofs.YtecjelnpmcnbaaaGreat
open Go.Ev
section
variable {x y : Rat}
end
section
variable {x : Rat} {A B w : Nat}
theorem un_enc {q : Rat} (h0 : 0 ≤ q) (w : Nat) : Enc w (unN q w) (unN q w + 1) q := by
  have D : (0 : Rat) < (q.den : Rat) := by exact_mod_cast q.den_pos
  have f := floor_le (a := q.num.natAbs * 2 ^ w) (d := q.den)
  have g := le_floor (a := q.num.natAbs * 2 ^ w) (d := q.den) q.den_pos
  have e : ((q.num.natAbs * 2 ^ w : Nat) : Rat) = q * p2 w * (q.den : Rat) := by
    rw [cm]
    have h := num_den' q
    have h2 : ((q.num.natAbs : Nat) : Rat) = (q.num : Rat) := by
      have : (q.num.natAbs : Int) = q.num := Int.natAbs_of_nonneg (Rat.num_nonneg.2 h0)
      rw [← this]; rfl
    rw [h2, ← h]
    show q * (q.den : Rat) * p2 w = _
    grind
  rw [e] at f g
  exact ⟨le_by D f, le_by D g⟩
end
end Go.Proofs.YtecjelnpmcnbaaaGreat
