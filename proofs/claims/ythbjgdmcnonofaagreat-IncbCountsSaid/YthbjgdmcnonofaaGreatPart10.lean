/- Part 10 of the proof: the evaluator, contracts of functions and their plain laws (joined by program). No condition. -/
import Derived.Test.YthbjgdmcnonofaaGreatPart9
/- Of whole numbers beta's share is how likely so many tries succeed: plain mathematics. -/
namespace Go.Proofs.YthbjgdmcnonofaaGreat
open Go.Ev
set_option linter.unusedVariables false
/-- How likely just i of n fail (y), the others succeed (x). -/
def trm (x y : Rat) (n i : Nat) : Rat := ((cc (n - i) i : Nat) : Rat) * pwR x (n - i) * pwR y i
def sS (x y : Rat) (n : Nat) : Nat → Rat
  | 0 => 0
  | j + 1 => sS x y n j + trm x y n j
theorem pwR_succ (q : Rat) (n : Nat) : pwR q (n + 1) = pwR q n * q := rfl
theorem pwR_nn {q : Rat} (h : 0 ≤ q) : ∀ n, 0 ≤ pwR q n
  | 0 => by show (0 : Rat) ≤ 1; decide
  | n + 1 => Rat.mul_nonneg (pwR_nn h n) h
theorem cn (a b : Nat) : ((a + b : Nat) : Rat) = (a : Rat) + (b : Rat) := by exact_mod_cast rfl
theorem cm (a b : Nat) : ((a * b : Nat) : Rat) = (a : Rat) * (b : Rat) := by exact_mod_cast rfl
theorem trm_nn {x y : Rat} (hx : 0 ≤ x) (hy : 0 ≤ y) (n i : Nat) : 0 ≤ trm x y n i :=
  Rat.mul_nonneg (Rat.mul_nonneg (nat_nonneg _) (pwR_nn hx _)) (pwR_nn hy _)
theorem trm_step {x y : Rat} {n i : Nat} (h : i ≤ n) : trm x y (n + 1) (i + 1) = x * trm x y n (i + 1) + y * trm x y n i ∨ i = n := by
  by_cases e : i = n
  · exact .inr e
  · left
    obtain ⟨m, rfl⟩ : ∃ m, n = m + 1 + i := ⟨n - i - 1, by omega⟩
    unfold trm
    rw [show m + 1 + i + 1 - (i + 1) = m + 1 by omega, show m + 1 + i - (i + 1) = m by omega, show m + 1 + i - i = m + 1 by omega, cc_succ, cn]
    simp only [pwR_succ]
    grind
theorem sS_step {x y : Rat} {n : Nat} : ∀ j, j ≤ n → sS x y (n + 1) (j + 1) = x * sS x y n (j + 1) + y * sS x y n j := by
  intro j
  induction j with
  | zero =>
    intro _
    show 0 + trm x y (n + 1) 0 = x * (0 + trm x y n 0) + y * 0
    unfold trm
    rw [cc_zero, cc_zero, Nat.sub_zero, Nat.sub_zero, pwR_succ]
    grind
  | succ j ih =>
    intro h
    have h1 := ih (by omega)
    have h2 := (trm_step (x := x) (y := y) (n := n) (i := j) (by omega)).resolve_right (by omega)
    show sS x y (n + 1) (j + 1) + trm x y (n + 1) (j + 1) = x * (sS x y n (j + 1) + trm x y n (j + 1)) + y * (sS x y n j + trm x y n j)
    rw [h1, h2]
    grind
section
variable {x y : Rat} {B : Nat}
/-- From one shape to the next just one term is lost. -/
theorem share_step (hxy : x + y = 1) (hB : 1 ≤ B) (m : Nat) : sS x y (m + B - 1) B = trm x y (m + B - 1) (B - 1) * y + sS x y (m + 1 + B - 1) B := by
  obtain ⟨b, rfl⟩ : ∃ b, B = b + 1 := ⟨B - 1, by omega⟩
  rw [show m + (b + 1) - 1 = m + b by omega, show m + 1 + (b + 1) - 1 = m + b + 1 by omega, Nat.add_sub_cancel]
  have h := sS_step (x := x) (y := y) (n := m + b) b (by omega)
  have h2 : sS x y (m + b) (b + 1) = sS x y (m + b) b + trm x y (m + b) b := rfl
  rw [h]
  have e : y = 1 - x := by grind
  rw [h2, e]
  grind
theorem trm_half (hx : 0 ≤ x) (hxy : x ≤ y) (hy : 0 < y) {n i : Nat} (hi : 1 ≤ i) (hn : 3 * i ≤ n + 1) : 2 * trm x y n (i - 1) ≤ trm x y n i := by
  obtain ⟨j, rfl⟩ : ∃ j, i = j + 1 := ⟨i - 1, by omega⟩
  obtain ⟨m, rfl⟩ : ∃ m, n = m + (j + 1) := ⟨n - (j + 1), by omega⟩
  rw [Nat.add_sub_cancel]
  unfold trm
  rw [show m + (j + 1) - j = m + 1 by omega, Nat.add_sub_cancel]
  have h := cc_move m j
  have h' : ((cc (m + 1) j : Nat) : Rat) * ((m + 1 : Nat) : Rat) = ((cc m (j + 1) : Nat) : Rat) * ((j + 1 : Nat) : Rat) := by rw [← cm, ← cm, h]
  have hm : ((2 * (j + 1) : Nat) : Rat) ≤ ((m + 1 : Nat) : Rat) := by exact_mod_cast (show 2 * (j + 1) ≤ m + 1 by omega)
  rw [cm] at hm
  have hj : (0 : Rat) < ((j + 1 : Nat) : Rat) := by exact_mod_cast Nat.succ_pos j
  simp only [pwR_succ]
  have c0 := nat_nonneg (cc (m + 1) j)
  have p1 := pwR_nn hx m
  have p2 := pwR_nn (show 0 ≤ y by grind) j
  generalize ((cc (m + 1) j : Nat) : Rat) = c at *
  generalize ((cc m (j + 1) : Nat) : Rat) = d at *
  generalize ((m + 1 : Nat) : Rat) = M at *
  generalize ((j + 1 : Nat) : Rat) = J at *
  generalize pwR x m = X at *
  generalize pwR y j = Y at *
  have two : ((2 : Nat) : Rat) = 2 := rfl
  rw [two] at hm
  -- 2 c x J <= c y M = d J y
  refine le_by hj ?_
  have s1 : c * (X * Y) * x ≤ c * (X * Y) * y := Rat.mul_le_mul_of_nonneg_left hxy (Rat.mul_nonneg c0 (Rat.mul_nonneg p1 p2))
  have s2 : c * (X * Y) * y * (2 * J) ≤ c * (X * Y) * y * M := Rat.mul_le_mul_of_nonneg_left hm (Rat.mul_nonneg (Rat.mul_nonneg c0 (Rat.mul_nonneg p1 p2)) (by grind))
  have s3 : c * (X * Y) * x * (2 * J) ≤ c * (X * Y) * y * (2 * J) := Rat.mul_le_mul_of_nonneg_right s1 (by grind)
  have e1 : 2 * (c * (X * x) * Y) * J = c * (X * Y) * x * (2 * J) := by grind
  have e2 : d * X * (Y * y) * J = c * (X * Y) * y * M := by
    have : d * X * (Y * y) * J = (d * J) * (X * Y * y) := by grind
    rw [this, ← h']; grind
  rw [e1, e2]
  exact Rat.le_trans s3 s2
theorem sS_le_two (hx : 0 ≤ x) (hxy : x ≤ y) (hy : 0 < y) {n : Nat} : ∀ j, 3 * j ≤ n + 1 → sS x y n (j + 1) ≤ 2 * trm x y n j := by
  intro j
  induction j with
  | zero =>
    intro _
    have := trm_nn hx (show 0 ≤ y by grind) n 0
    show 0 + trm x y n 0 ≤ _
    grind
  | succ j ih =>
    intro h
    have h1 := ih (by omega)
    have h2 := trm_half hx hxy hy (n := n) (i := j + 1) (by omega) (by omega)
    rw [Nat.add_sub_cancel] at h2
    show sS x y n (j + 1) + trm x y n (j + 1) ≤ _
    grind
theorem sS_nn (hx : 0 ≤ x) (hy : 0 ≤ y) (n : Nat) : ∀ j, 0 ≤ sS x y n j
  | 0 => Rat.le_refl
  | j + 1 => by
    have h1 := sS_nn hx hy n j
    have h2 := trm_nn hx hy n j
    show 0 ≤ sS x y n j + trm x y n j
    grind
/-- What is left out is at most four times the term. -/
theorem share_le (hx : 0 ≤ x) (hxy : x ≤ y) (h1 : x + y = 1) (hB : 1 ≤ B) {m : Nat} (hm : 2 * B ≤ m) : sS x y (m + B - 1) B ≤ 4 * (trm x y (m + B - 1) (B - 1) * y) := by
  obtain ⟨b, rfl⟩ : ∃ b, B = b + 1 := ⟨B - 1, by omega⟩
  rw [Nat.add_sub_cancel]
  have hy : 0 < y := by grind
  have h2 := sS_le_two hx hxy hy (n := m + (b + 1) - 1) b (by omega)
  have t0 := trm_nn hx (show 0 ≤ y by grind) (m + (b + 1) - 1) b
  generalize trm x y (m + (b + 1) - 1) b = t at *
  have h3 : t * 1 ≤ t * (2 * y) := Rat.mul_le_mul_of_nonneg_left (by grind) t0
  grind
/-- A term of the row is a term of the share. -/
theorem term_is (hB : 1 ≤ B) {A : Nat} (hA : 1 ≤ A) : ∀ k, ((cc (B - 1) A : Nat) : Rat) * (pwR x A * pwR y B) * rR x (2 * A) (2 * B) k = trm x y (A + k + B - 1) (B - 1) * y := by
  obtain ⟨b, rfl⟩ : ∃ b, B = b + 1 := ⟨B - 1, by omega⟩
  intro k
  induction k with
  | zero =>
    unfold trm
    rw [show A + 0 + (b + 1) - 1 - (b + 1 - 1) = A by omega, Nat.add_sub_cancel, cc_symm b A]
    show _ * (pwR x A * (pwR y b * y)) * 1 = _
    grind
  | succ k ih =>
    have e1 : rR x (2 * A) (2 * (b + 1)) (k + 1) = rR x (2 * A) (2 * (b + 1)) k * x * ((2 * A + 2 * (b + 1) + 2 * k : Nat) : Rat) / ((2 * A + 2 + 2 * k : Nat) : Rat) := rfl
    have D : (0 : Rat) < ((2 * A + 2 + 2 * k : Nat) : Rat) := by exact_mod_cast (show 0 < 2 * A + 2 + 2 * k by omega)
    have e2 : ((cc (b + 1 - 1) A : Nat) : Rat) * (pwR x A * pwR y (b + 1)) * rR x (2 * A) (2 * (b + 1)) (k + 1) * ((2 * A + 2 + 2 * k : Nat) : Rat) = trm x y (A + k + (b + 1) - 1) (b + 1 - 1) * y * (x * ((2 * A + 2 * (b + 1) + 2 * k : Nat) : Rat)) := by
      rw [e1, ← ih]
      have := Rat.div_mul_cancel (a := rR x (2 * A) (2 * (b + 1)) k * x * ((2 * A + 2 * (b + 1) + 2 * k : Nat) : Rat)) (b := ((2 * A + 2 + 2 * k : Nat) : Rat)) (by grind)
      generalize rR x (2 * A) (2 * (b + 1)) k * x * ((2 * A + 2 * (b + 1) + 2 * k : Nat) : Rat) / ((2 * A + 2 + 2 * k : Nat) : Rat) = z at *
      grind
    have e3 : trm x y (A + (k + 1) + (b + 1) - 1) (b + 1 - 1) * y * ((2 * A + 2 + 2 * k : Nat) : Rat) = trm x y (A + k + (b + 1) - 1) (b + 1 - 1) * y * (x * ((2 * A + 2 * (b + 1) + 2 * k : Nat) : Rat)) := by
      unfold trm
      rw [Nat.add_sub_cancel, show A + (k + 1) + (b + 1) - 1 - b = A + k + 1 by omega, show A + k + (b + 1) - 1 - b = A + k by omega]
      have h := cc_step b (A + k)
      rw [cc_symm b (A + k + 1), cc_symm b (A + k)] at h
      have h' : ((cc (A + k + 1) b : Nat) : Rat) * ((2 * A + 2 + 2 * k : Nat) : Rat) = ((cc (A + k) b : Nat) : Rat) * ((2 * A + 2 * (b + 1) + 2 * k : Nat) : Rat) := by
        rw [← cm, ← cm]
        congr 1
        have x1 : 2 * A + 2 + 2 * k = (A + k + 1) * 2 := by omega
        have x2 : 2 * A + 2 * (b + 1) + 2 * k = (b + (A + k + 1)) * 2 := by omega
        rw [x1, x2, ← Nat.mul_assoc, ← Nat.mul_assoc, h]
      rw [pwR_succ]
      generalize ((2 * A + 2 + 2 * k : Nat) : Rat) = u at *
      generalize ((2 * A + 2 * (b + 1) + 2 * k : Nat) : Rat) = v at *
      grind
    rw [← e3] at e2
    have e4 : (((cc (b + 1 - 1) A : Nat) : Rat) * (pwR x A * pwR y (b + 1)) * rR x (2 * A) (2 * (b + 1)) (k + 1) - trm x y (A + (k + 1) + (b + 1) - 1) (b + 1 - 1) * y) * ((2 * A + 2 + 2 * k : Nat) : Rat) = 0 := by
      generalize ((2 * A + 2 + 2 * k : Nat) : Rat) = u at *
      grind
    rcases Rat.mul_eq_zero.1 e4 with g | g
    · grind
    · grind
/-- The row's sum, and what is left out, are the share. -/
theorem sum_is (hxy : x + y = 1) (hB : 1 ≤ B) {A : Nat} (hA : 1 ≤ A) : ∀ k, sS x y (A + B - 1) B = ((cc (B - 1) A : Nat) : Rat) * (pwR x A * pwR y B) * sR x (2 * A) (2 * B) k + sS x y (A + k + 1 + B - 1) B := by
  intro k
  induction k with
  | zero =>
    have h := share_step hxy hB A
    have t := term_is (x := x) (y := y) hB hA 0
    rw [h]
    rw [show A + 0 + B - 1 = A + B - 1 by omega] at t
    rw [← t]
    rfl
  | succ k ih =>
    have h := share_step hxy hB (A + k + 1)
    have t := term_is (x := x) (y := y) hB hA (k + 1)
    rw [ih, h]
    rw [show A + (k + 1) + B - 1 = A + k + 1 + B - 1 by omega] at t
    rw [← t]
    show _ = _ * (sR x (2 * A) (2 * B) k + rR x (2 * A) (2 * B) (k + 1)) + _
    rw [show A + (k + 1) + 1 + B - 1 = A + k + 1 + 1 + B - 1 by omega]
    grind
end
end Go.Proofs.YthbjgdmcnonofaaGreat

/- What the row of whole numbers tells has the share, and is narrow: plain mathematics. -/
namespace Go.Proofs.YthbjgdmcnonofaaGreat
open Go.Ev
set_option linter.unusedVariables false
section
variable {x y : Rat}
theorem sS_total (h : x + y = 1) : ∀ n, sS x y n (n + 1) = 1 := by
  intro n
  induction n with
  | zero =>
    show 0 + trm x y 0 0 = 1
    unfold trm
    rw [cc_zero]
    show (0 : Rat) + ((1 : Nat) : Rat) * 1 * 1 = 1
    decide +kernel
  | succ n ih =>
    have h1 := sS_step (x := x) (y := y) (n := n) n (Nat.le_refl _)
    have h2 : sS x y n (n + 1) = sS x y n n + trm x y n n := rfl
    have t1 : trm x y n n = pwR y n := by
      unfold trm
      rw [Nat.sub_self, show cc 0 n = 1 by simp [cc]]
      show ((1 : Nat) : Rat) * 1 * pwR y n = _
      have : ((1 : Nat) : Rat) = 1 := rfl
      rw [this]; grind
    have t2 : trm x y (n + 1) (n + 1) = pwR y n * y := by
      unfold trm
      rw [Nat.sub_self, show cc 0 (n + 1) = 1 by simp [cc], pwR_succ]
      show ((1 : Nat) : Rat) * 1 * _ = _
      have : ((1 : Nat) : Rat) = 1 := rfl
      rw [this]; grind
    show sS x y (n + 1) (n + 1) + trm x y (n + 1) (n + 1) = 1
    rw [h1, t2]
    rw [t1] at h2
    rw [ih] at h2 ⊢
    have e : x = 1 - y := by grind
    rw [e]
    grind
theorem trm_turn {n i : Nat} (h : i ≤ n) : trm x y n i = trm y x n (n - i) := by
  unfold trm
  rw [show n - (n - i) = i by omega, cc_symm]
  grind
theorem sS_turn (h : x + y = 1) {n : Nat} : ∀ j, j ≤ n + 1 → sS x y n j + sS y x n (n + 1 - j) = 1 := by
  intro j
  induction j with
  | zero =>
    intro _
    show 0 + sS y x n (n + 1) = 1
    rw [sS_total (by grind)]; grind
  | succ j ih =>
    intro hj
    have h1 := ih (by omega)
    have h2 := trm_turn (x := x) (y := y) (n := n) (i := j) (by omega)
    have h3 : sS y x n (n + 1 - j) = sS y x n (n - j) + trm y x n (n - j) := by
      rw [show n + 1 - j = (n - j) + 1 by omega]; rfl
    show sS x y n j + trm x y n j + sS y x n (n + 1 - (j + 1)) = 1
    rw [show n + 1 - (j + 1) = n - j by omega, h2]
    grind
theorem pwR_den {q : Rat} {X D : Nat} (h : q * (D : Rat) = (X : Rat)) : ∀ n, pwR q n * ((D ^ n : Nat) : Rat) = ((X ^ n : Nat) : Rat)
  | 0 => by show (1 : Rat) * ((1 : Nat) : Rat) = ((1 : Nat) : Rat); rw [Rat.one_mul]
  | n + 1 => by
    have ih := pwR_den h n
    rw [pwR_succ, Nat.pow_succ, Nat.pow_succ, cm, cm, ← ih, ← h]
    grind
theorem sS_den {X F D n : Nat} (hx : x * (D : Rat) = (X : Rat)) (hy : y * (D : Rat) = (F : Rat)) : ∀ k, k ≤ n + 1 → sS y x n k * ((D ^ n : Nat) : Rat) = ((sumN X F n k : Nat) : Rat) := by
  intro k
  induction k with
  | zero => intro _; show (0 : Rat) * _ = ((0 : Nat) : Rat); rw [Rat.zero_mul]; rfl
  | succ k ih =>
    intro hk
    have h1 := ih (by omega)
    have h2 : trm y x n k * ((D ^ n : Nat) : Rat) = ((termN X F n k : Nat) : Rat) := by
      unfold trm termN
      rw [cm, cm, ← pwR_den hx k, ← pwR_den hy (n - k)]
      have e : ((D ^ n : Nat) : Rat) = ((D ^ k : Nat) : Rat) * ((D ^ (n - k) : Nat) : Rat) := by rw [← cm, ← Nat.pow_add, show k + (n - k) = n by omega]
      rw [e]
      grind
    show (sS y x n k + trm y x n k) * _ = ((sumN X F n k + termN X F n k : Nat) : Rat)
    rw [cn, ← h1, ← h2]
    grind
end
theorem cdf_is {x : Rat} (h0 : 0 ≤ x) (h1 : x ≤ 1) {n k : Nat} (hk : 1 ≤ k) (hkn : k ≤ n) : cdfB n ((k : Int) - 1) x = sS (1 - x) x n k := by
  unfold cdfB
  rw [if_neg (by omega), if_neg (by omega), show ((k : Int) - 1).toNat + 1 = k by omega]
  obtain ⟨u1, u2⟩ := unit_num h0 h1
  have hx : x * (x.den : Rat) = ((x.num.natAbs : Nat) : Rat) := by
    rw [num_den' x, ← u2]; rfl
  have hy : (1 - x) * (x.den : Rat) = ((x.den - x.num.natAbs : Nat) : Rat) := by
    have e : ((x.den - x.num.natAbs : Nat) : Rat) + ((x.num.natAbs : Nat) : Rat) = (x.den : Rat) := by rw [← cn]; congr 1; omega
    grind
  have h := sS_den hx hy (n := n) k (by omega)
  have D : (0 : Rat) < ((x.den ^ n : Nat) : Rat) := by exact_mod_cast (den_pos x n)
  have m : mkRat ((sumN x.num.natAbs (x.den - x.num.natAbs) n k : Nat) : Int) (x.den ^ n) * ((x.den ^ n : Nat) : Rat) = ((sumN x.num.natAbs (x.den - x.num.natAbs) n k : Nat) : Rat) := by
    rw [Rat.mkRat_eq_div]
    exact Rat.div_mul_cancel (by grind)
  have e : (mkRat ((sumN x.num.natAbs (x.den - x.num.natAbs) n k : Nat) : Int) (x.den ^ n) - sS (1 - x) x n k) * ((x.den ^ n : Nat) : Rat) = 0 := by
    generalize mkRat ((sumN x.num.natAbs (x.den - x.num.natAbs) n k : Nat) : Int) (x.den ^ n) = z at *
    generalize ((x.den ^ n : Nat) : Rat) = d at *
    grind
  rcases Rat.mul_eq_zero.1 e with g | g
  · grind
  · grind
section
variable {x : Rat} {A B w : Nat}
theorem un_enc {q : Rat} (h0 : 0 ≤ q) (w : Nat) : Enc w (unN q w) (unN q w + 1) q := by
  have D : (0 : Rat) < (q.den : Rat) := by exact_mod_cast q.den_pos
  have f := floor_le (a := q.num.natAbs * 2 ^ w) (d := q.den)
  have g := le_floor (a := q.num.natAbs * 2 ^ w) (d := q.den) q.den_pos
  have e : ((q.num.natAbs * 2 ^ w : Nat) : Rat) = q * p2 w * (q.den : Rat) := by
    rw [cm]
    have h := num_den' q
    have h2 : ((q.num.natAbs : Nat) : Rat) = (q.num : Rat) := by
      have : (q.num.natAbs : Int) = q.num := Int.natAbs_of_nonneg (Rat.num_nonneg.2 h0)
      rw [← this]; rfl
    rw [h2, ← h]
    show q * (q.den : Rat) * p2 w = _
    grind
  rw [e] at f g
  exact ⟨le_by D f, le_by D g⟩
theorem pw_enc {q : Rat} (h0 : 0 ≤ q) (hA : A ≤ 15) : Enc w (pwN q A w).1 (pwN q A w).2 (pwR q A) := by
  have one : Enc w (2 ^ w) (2 ^ w + 1) 1 := by
    refine ⟨by rw [Rat.one_mul]; exact Rat.le_refl, ?_⟩
    rw [Rat.one_mul]
    exact_mod_cast Nat.le_succ (2 ^ w)
  have h := powGo_enc 4 A _ _ _ _ (by omega) one (un_enc h0 w)
  rw [Rat.one_mul] at h
  exact h
theorem fs_enc (h0 : 0 ≤ x) (h1 : x ≤ 1) (hA : A ≤ 15) (hB : B ≤ 15) : Enc w (fsN x A B w).1 (fsN x A B w).2 (((cc (B - 1) A : Nat) : Rat) * (pwR x A * pwR (1 - x) B)) := by
  have m := enc_mul (pw_enc (w := w) h0 hA) (pw_enc (w := w) (q := 1 - x) (by grind) hB)
  have t := enc_times (n := cc (B - 1) A) (d := 1) (by omega) m
  rw [Nat.div_one, Nat.div_one] at t
  have e : pwR x A * pwR (1 - x) B * ((cc (B - 1) A : Nat) : Rat) / ((1 : Nat) : Rat) = ((cc (B - 1) A : Nat) : Rat) * (pwR x A * pwR (1 - x) B) := by
    have : ((1 : Nat) : Rat) = 1 := rfl
    rw [this, Rat.div_def, show (1 : Rat)⁻¹ = 1 from by decide +kernel, Rat.mul_one, Rat.mul_comm]
  rw [e] at t
  exact t
/-- What the row tells has the share, and is narrow. -/
theorem row_has {A' B' K : Nat} (hA : 1 ≤ A) (hB : 1 ≤ B) (hAB : A + B ≤ 10) (h0 : 0 ≤ x) (h1 : x + x ≤ 1) (hw0 : 60 ≤ w) (hw : w ≤ 400)
    (hg : rowGo w (unN x w) (unN x w + 1) (2 * A) (2 * B) 2201 0 (fsN x A B w).1 (fsN x A B w).2 (fsN x A B w).1 (fsN x A B w).2 = some (A', B', K)) :
    (A' : Rat) ≤ sS x (1 - x) (A + B - 1) B * p2 w ∧ sS x (1 - x) (A + B - 1) B * p2 w ≤ (B' : Rat) ∧ B' ≤ A' + 2 ^ 102 ∧ B' ≤ 2 ^ (w + 61) := by
  obtain ⟨hP, hy, -⟩ := row_ends hA hB hAB h0 h1 hw0 hw
  have ok := fs_ok hA hB hAB h0 (show x ≤ 1 by grind) hw0
  have hp9 : 2 ^ (w + 9) = 2 ^ w * 512 := by rw [Nat.pow_add]
  have h40 : 4 ^ (2 * B) ≤ 4 ^ 18 := Nat.pow_le_pow_right (by omega) (by omega)
  have hC : 4 ^ (2 * B) * 2 ^ (w + 9) ≤ 2 ^ 49 * 2 ^ w := by
    rw [hp9, Nat.mul_comm (2 ^ w) 512, ← Nat.mul_assoc]
    exact Nat.mul_le_mul_right _ (Nat.le_trans (Nat.mul_le_mul_right 512 h40) (by decide))
  obtain ⟨i1, i2, i3, i4⟩ := row_inv (a := 2 * A) (b := 2 * B) (C := 2 ^ 49) hP rfl hy (by omega) (by omega) (by omega) hC (by decide) 2201 0 _ _ _ _ hg ok
  have enc := fs_enc (w := w) h0 (show x ≤ 1 by grind) (show A ≤ 15 by omega) (show B ≤ 15 by omega)
  have en1 : Enc w (fsN x A B w).1 (fsN x A B w).2 (((cc (B - 1) A : Nat) : Rat) * (pwR x A * pwR (1 - x) B) * rR x (2 * A) (2 * B) 0) := by
    show Enc _ _ _ (_ * 1)
    rw [Rat.mul_one]; exact enc
  have en2 : Enc w (fsN x A B w).1 (fsN x A B w).2 (((cc (B - 1) A : Nat) : Rat) * (pwR x A * pwR (1 - x) B) * sR x (2 * A) (2 * B) 0) := en1
  obtain ⟨hbK, e1, e2, e3⟩ := row_enc (un_enc h0 w) 2201 0 _ _ _ _ hg en1 en2
  have hxy : x + (1 - x) = 1 := by grind
  have s := sum_is hxy hB hA K
  have nn := sS_nn h0 (show 0 ≤ 1 - x by grind) (A + K + 1 + B - 1) B
  have st := share_step hxy hB (A + K)
  have le := share_le h0 (show x ≤ 1 - x by grind) hxy hB (m := A + K) (by omega)
  have tm := term_is (x := x) (y := 1 - x) hB hA K
  have tn := trm_nn h0 (show 0 ≤ 1 - x by grind) (A + K + B - 1) (B - 1)
  have P := p2_pos w
  rw [← tm] at le st
  rw [s]
  generalize ((cc (B - 1) A : Nat) : Rat) * (pwR x A * pwR (1 - x) B) = c at *
  generalize rR x (2 * A) (2 * B) K = r at *
  generalize sR x (2 * A) (2 * B) K = q at *
  generalize sS x (1 - x) (A + K + 1 + B - 1) B = rem at *
  generalize sS x (1 - x) (A + K + B - 1) B = rem' at *
  have tn2 : 0 ≤ c * r := by rw [tm]; exact Rat.mul_nonneg tn (by grind)
  have hr : rem ≤ 4 * (c * r) := by grind
  have hr2 := Rat.mul_le_mul_of_nonneg_right hr (show 0 ≤ p2 w by grind)
  have nn2 : 0 ≤ rem * p2 w := Rat.mul_nonneg nn (by grind)
  refine ⟨?_, ?_, ?_, ?_⟩
  · grind
  · grind
  · have b1 : (K + 1) * (4 ^ (2 * B) * 2 ^ 54) ≤ 2201 * (4 ^ 18 * 2 ^ 54) := Nat.mul_le_mul (by omega) (Nat.mul_le_mul_right _ h40)
    have b2 : 2201 * (4 ^ 18 * 2 ^ 54) + 64 ≤ 2 ^ 102 := by decide
    omega
  · have b1 : (K + 1) * (4 ^ (2 * B) * 2 ^ (w + 9)) ≤ 2201 * (2 ^ 49 * 2 ^ w) := Nat.mul_le_mul (by omega) hC
    have b2 : 2 ^ (w + 61) = 4096 * (2 ^ 49 * 2 ^ w) := by rw [show w + 61 = 12 + (49 + w) by omega, Nat.pow_add, Nat.pow_add]
    have b3 : 64 ≤ 2 ^ 49 * 2 ^ w := Nat.le_trans (by decide) (Nat.le_mul_of_pos_right (2 ^ 49) (by omega))
    omega
theorem p2_ad (a b : Nat) : p2 (a + b) = p2 a * p2 b := by
  show ((2 ^ (a + b) : Nat) : Rat) = ((2 ^ a : Nat) : Rat) * ((2 ^ b : Nat) : Rat)
  rw [← cm, ← Nat.pow_add]
theorem told_has {A' B' p : Nat} {V : Rat} (h1 : (A' : Rat) ≤ V * p2 (p + 300)) (h2 : V * p2 (p + 300) ≤ (B' : Rat)) (h3 : B' ≤ A' + 2 ^ 102) :
    mkRat ((A' / 2 ^ (p + 300 - (p + 2)) : Nat) : Int) (2 ^ (p + 2)) ≤ V ∧ V ≤ mkRat ((B' / 2 ^ (p + 300 - (p + 2)) + 1 : Nat) : Int) (2 ^ (p + 2)) ∧
      (mkRat ((B' / 2 ^ (p + 300 - (p + 2)) + 1 : Nat) : Int) (2 ^ (p + 2)) - mkRat ((A' / 2 ^ (p + 300 - (p + 2)) : Nat) : Int) (2 ^ (p + 2))) * p2 p ≤ 1 := by
  have P1 := p2_pos (p + 2)
  have P2 := p2_pos 298
  rw [show p + 300 - (p + 2) = 298 by omega]
  have m : ∀ a : Nat, mkRat (a : Int) (2 ^ (p + 2)) * p2 (p + 2) = (a : Rat) := by
    intro a
    rw [Rat.mkRat_eq_div]
    exact Rat.div_mul_cancel (by have : (0 : Rat) < ((2 ^ (p + 2) : Nat) : Rat) := P1; grind)
  have hsp : p2 (p + 300) = p2 (p + 2) * p2 298 := by rw [show p + 300 = (p + 2) + 298 by omega, p2_ad]
  have f := floor_le (a := A') (d := 2 ^ 298)
  have g := le_floor (a := B') (d := 2 ^ 298) (Nat.pow_pos (by omega))
  have m1 := m (A' / 2 ^ 298)
  have m2 := m (B' / 2 ^ 298 + 1)
  have gap : B' / 2 ^ 298 ≤ A' / 2 ^ 298 + 1 := by
    obtain ⟨E, hE⟩ : ∃ E : Nat, E = 298 := ⟨_, rfl⟩
    have h6 : 2 ^ 102 ≤ 2 ^ E := Nat.pow_le_pow_right (by omega) (by omega)
    have h4 : B' ≤ A' + 2 ^ E := Nat.le_trans h3 (Nat.add_le_add_left h6 _)
    have h5 := Nat.div_le_div_right (c := 2 ^ E) h4
    rw [Nat.add_div_right _ (Nat.pow_pos (by omega)), hE] at h5
    exact h5
  have gapR : ((B' / 2 ^ 298 + 1 : Nat) : Rat) ≤ ((A' / 2 ^ 298 : Nat) : Rat) + 2 := by
    have : ((A' / 2 ^ 298 : Nat) : Rat) + 2 = ((A' / 2 ^ 298 + 2 : Nat) : Rat) := by exact_mod_cast rfl
    rw [this]
    exact_mod_cast (show B' / 2 ^ 298 + 1 ≤ A' / 2 ^ 298 + 2 by omega)
  have hp2 : p2 (p + 2) = p2 p * 4 := by
    show ((2 ^ (p + 2) : Nat) : Rat) = ((2 ^ p : Nat) : Rat) * ((4 : Nat) : Rat)
    rw [← cm, Nat.pow_add]
  change _ * p2 298 ≤ _ at f
  change _ ≤ _ * p2 298 at g
  generalize mkRat ((A' / 2 ^ 298 : Nat) : Int) (2 ^ (p + 2)) = q1 at *
  generalize mkRat ((B' / 2 ^ 298 + 1 : Nat) : Int) (2 ^ (p + 2)) = q2 at *
  refine ⟨le_by P1 ?_, le_by P1 ?_, ?_⟩
  · rw [m1]
    refine le_by P2 ?_
    have : V * p2 (p + 2) * p2 298 = V * p2 (p + 300) := by rw [hsp]; grind
    rw [this]; exact Rat.le_trans f h1
  · rw [m2]
    refine le_by P2 ?_
    have : V * p2 (p + 2) * p2 298 = V * p2 (p + 300) := by rw [hsp]; grind
    rw [this]; exact Rat.le_trans h2 g
  · rw [hp2] at m1 m2
    grind
end
end Go.Proofs.YthbjgdmcnonofaaGreat

/- slices.Equal, rat.Same; incb.I of whole numbers, in the evaluator. -/
namespace Go.Proofs.YthbjgdmcnonofaaGreat
set_option linter.unusedSimpArgs false
set_option linter.unusedVariables false
set_option maxRecDepth 8000
open Go.Ev
theorem slices_Equal (a b : List Nat) (ha : a.length ≤ 274877906944) (hb : b.length ≤ 274877906944) : Go.Ev.Fn CX 93 [natV a, natV b] (.bool (decide (a = b))) := by
  refine Go.Ev.Fn.intro (fn := Tryz.f93) (body := (Tryz.f93).body.get!) (by kernel_rfl) (by kernel_rfl) (by kernel_rfl) (fun _ => rfl) (Nat.le_of_ble_eq_true (by kernel_rfl)) ?_; unfold Tryz.f93; simp only [Option.get!_some]
  by_cases hl : a.length = b.length
  · repeat (first | (simp only [go_sem, Nat.reduceEqDiff, Nat.reduceAdd, Nat.reduceSub, Nat.reduceMul, Nat.reduceLeDiff, Nat.reduceLT, reduceIte, reduceCtorEq, Nat.succ_ne_zero, elemsC, Int.reduceToNat, Nat.reducePow]) | (simp (disch := (first | omega | (simp only [AL, List.length_map]; omega))) only [AR, AL, ifT, ifF, take_all, List.length_cons, List.length_nil, Int.reduceToNat, Int.reducePow, Nat.reducePow]) | (refine wk_intro (by kernel_rfl) ?_) | (refine vp_draw (id := 6) (l := []) (by kernel_rfl) ?_))
    refine vp_loop_inv (fun s => s.tmp 0 = .sv (natV a) ∧ s.tmp 1 = .sv (natV b) ∧ s.tmp 12 = .sv (.int .i64 (a.length : Int)) ∧ ∃ i : Nat, s.tmp 13 = .sv (.int .i64 i) ∧ i ≤ a.length ∧ a.take i = b.take i) (fun s => match s.tmp 13 with | .sv (.int _ i) => a.length - i.toNat | _ => 0) ⟨rfl, rfl, rfl, 0, rfl, by omega, rfl⟩ ?_
    rintro s ⟨i0, i1, i12, i, i13, hi, ht⟩
    by_cases hend : i = a.length
    · subst hend
      rw [List.take_length, hl, List.take_length] at ht
      rw [decide_eq_true ht]
      repeat (first | (simp only [go_sem, Nat.reduceEqDiff, Nat.reduceAdd, Nat.reduceSub, Nat.reduceMul, Nat.reduceLeDiff, Nat.reduceLT, reduceIte, reduceCtorEq, Nat.succ_ne_zero, elemsC, Int.reduceToNat, Nat.reducePow, i0, i1, i12, i13]) | (simp (disch := (first | omega | (simp only [AL, List.length_map]; omega))) only [AR, AL, ifT, ifF, take_all, List.length_cons, List.length_nil, Int.reduceToNat, Int.reducePow, Nat.reducePow, i0, i1, i12, i13]) | (refine wk_intro (by kernel_rfl) ?_) | (refine vp_draw (id := 6) (l := []) (by kernel_rfl) ?_))
    · have e : ∀ c : List Nat, i < c.length → c.take (i + 1) = c.take i ++ [c.getD i 0] := by
        intro c hc
        rw [List.take_add_one, List.getD_eq_getElem?_getD, List.getElem?_eq_getElem hc]
        rfl
      by_cases hx : a.getD i 0 = b.getD i 0
      · repeat (first | (simp only [go_sem, Nat.reduceEqDiff, Nat.reduceAdd, Nat.reduceSub, Nat.reduceMul, Nat.reduceLeDiff, Nat.reduceLT, reduceIte, reduceCtorEq, Nat.succ_ne_zero, elemsC, Int.reduceToNat, Nat.reducePow, i0, i1, i12, i13]) | (simp (disch := (first | omega | (simp only [AL, List.length_map]; omega))) only [AR, AL, ifT, ifF, take_all, List.length_cons, List.length_nil, Int.reduceToNat, Int.reducePow, Nat.reducePow, i0, i1, i12, i13]) | (refine wk_intro (by kernel_rfl) ?_) | (refine vp_draw (id := 6) (l := []) (by kernel_rfl) ?_))
        exact ⟨⟨i + 1, rfl, by omega, by rw [e a (by omega), e b (by omega), ht, hx]⟩, by omega⟩
      · rw [decide_eq_false (fun h => hx (by rw [h]))]
        repeat (first | (simp only [go_sem, Nat.reduceEqDiff, Nat.reduceAdd, Nat.reduceSub, Nat.reduceMul, Nat.reduceLeDiff, Nat.reduceLT, reduceIte, reduceCtorEq, Nat.succ_ne_zero, elemsC, Int.reduceToNat, Nat.reducePow, i0, i1, i12, i13]) | (simp (disch := (first | omega | (simp only [AL, List.length_map]; omega))) only [AR, AL, ifT, ifF, take_all, List.length_cons, List.length_nil, Int.reduceToNat, Int.reducePow, Nat.reducePow, i0, i1, i12, i13]) | (refine wk_intro (by kernel_rfl) ?_) | (refine vp_draw (id := 6) (l := []) (by kernel_rfl) ?_))
  · rw [decide_eq_false (fun h => hl (by rw [h]))]
    repeat (first | (simp only [go_sem, Nat.reduceEqDiff, Nat.reduceAdd, Nat.reduceSub, Nat.reduceMul, Nat.reduceLeDiff, Nat.reduceLT, reduceIte, reduceCtorEq, Nat.succ_ne_zero, elemsC, Int.reduceToNat, Nat.reducePow]) | (simp (disch := (first | omega | (simp only [AL, List.length_map]; omega))) only [AR, AL, ifT, ifF, take_all, List.length_cons, List.length_nil, Int.reduceToNat, Int.reducePow, Nat.reducePow]) | (refine wk_intro (by kernel_rfl) ?_) | (refine vp_draw (id := 6) (l := []) (by kernel_rfl) ?_))
theorem rat_Same {v w : SV} {q r : Rat} {L M : Nat} (hv : RatA v q L) (hw : RatA w r M) (hL : 1 ≤ L) (hM : 1 ≤ M) (h : L + M ≤ 8388608) : Go.Ev.Fn CX 49 [v, w] (.bool (decide (q = r))) := by
  have hnv := rat_Norm hv (by omega)
  have hnw := rat_Norm hw (by omega)
  obtain ⟨z1, z2⟩ := szR_of hv hL
  obtain ⟨y1, y2⟩ := szR_of hw hM
  have l1 := slices_Equal (lim q.num.natAbs) (lim r.num.natAbs) (by omega) (by omega)
  have l2 := slices_Equal (lim q.den) (lim r.den) (by omega) (by omega)
  have hbb := beq_bool (decide (q.num < 0)) (decide (r.num < 0))
  obtain ⟨s, n, d, rfl, -⟩ := hv
  obtain ⟨s', n', d', rfl, -⟩ := hw
  refine Go.Ev.Fn.intro (fn := Tryz.f49) (body := (Tryz.f49).body.get!) (by kernel_rfl) (by kernel_rfl) (by kernel_rfl) (fun _ => rfl) (Nat.le_of_ble_eq_true (by kernel_rfl)) ?_; unfold Tryz.f49; simp only [Option.get!_some]
  repeat (first | (simp only [go_sem, Nat.reduceEqDiff, Nat.reduceAdd, Nat.reduceSub, Nat.reduceMul, Nat.reduceLeDiff, Nat.reduceLT, reduceIte, reduceCtorEq, Nat.succ_ne_zero, elemsC, Int.reduceToNat, Nat.reducePow, hbb]) | (simp (disch := (first | omega | (simp only [AL, List.length_map]; omega))) only [AR, AL, ifT, ifF, take_all, List.length_cons, List.length_nil, Int.reduceToNat, Int.reducePow, Nat.reducePow, hbb]) | (refine wk_intro (by kernel_rfl) ?_) | (refine vp_draw (id := 1) (l := []) (by kernel_rfl) ?_) | (refine vf_of (by first | exact hnv | exact hnw) ?_))
  by_cases h1 : decide (q.num < 0) = decide (r.num < 0)
  · rw [decide_eq_true h1]
    by_cases h2 : lim q.num.natAbs = lim r.num.natAbs
    · rw [decide_eq_true h2] at l1
      repeat (first | (simp only [go_sem, Nat.reduceEqDiff, Nat.reduceAdd, Nat.reduceSub, Nat.reduceMul, Nat.reduceLeDiff, Nat.reduceLT, reduceIte, reduceCtorEq, Nat.succ_ne_zero, elemsC, Int.reduceToNat, Nat.reducePow]) | (simp (disch := (first | omega | (simp only [AL, List.length_map]; omega))) only [AR, AL, ifT, ifF, take_all, List.length_cons, List.length_nil, Int.reduceToNat, Int.reducePow, Nat.reducePow]) | (refine wk_intro (by kernel_rfl) ?_) | (refine vp_draw (id := 1) (l := []) (by kernel_rfl) ?_))
      have e : decide (lim q.den = lim r.den) = decide (q = r) := by
        by_cases h3 : lim q.den = lim r.den
        · rw [decide_eq_true h3, decide_eq_true (rv_eq h1 h2 h3)]
        · rw [decide_eq_false h3, decide_eq_false (fun e => h3 (by rw [e]))]
      rw [e] at l2
      repeat (first | (simp only [go_sem, Nat.reduceEqDiff, Nat.reduceAdd, Nat.reduceSub, Nat.reduceMul, Nat.reduceLeDiff, Nat.reduceLT, reduceIte, reduceCtorEq, Nat.succ_ne_zero, elemsC, Int.reduceToNat, Nat.reducePow]) | (simp (disch := (first | omega | (simp only [AL, List.length_map]; omega))) only [AR, AL, ifT, ifF, take_all, List.length_cons, List.length_nil, Int.reduceToNat, Int.reducePow, Nat.reducePow]) | (refine wk_intro (by kernel_rfl) ?_) | (refine vp_draw (id := 1) (l := []) (by kernel_rfl) ?_) | (refine vf_of (by first | exact l1 | exact l2) ?_))
    · rw [decide_eq_false h2] at l1
      have hne : q ≠ r := fun e => h2 (by rw [e])
      rw [decide_eq_false hne]
      repeat (first | (simp only [go_sem, Nat.reduceEqDiff, Nat.reduceAdd, Nat.reduceSub, Nat.reduceMul, Nat.reduceLeDiff, Nat.reduceLT, reduceIte, reduceCtorEq, Nat.succ_ne_zero, elemsC, Int.reduceToNat, Nat.reducePow]) | (simp (disch := (first | omega | (simp only [AL, List.length_map]; omega))) only [AR, AL, ifT, ifF, take_all, List.length_cons, List.length_nil, Int.reduceToNat, Int.reducePow, Nat.reducePow]) | (refine wk_intro (by kernel_rfl) ?_) | (refine vp_draw (id := 1) (l := []) (by kernel_rfl) ?_) | (refine vf_of (by first | exact l1) ?_))
  · have hne : q ≠ r := fun e => h1 (by rw [e])
    rw [decide_eq_false h1, decide_eq_false hne]
    repeat (first | (simp only [go_sem, Nat.reduceEqDiff, Nat.reduceAdd, Nat.reduceSub, Nat.reduceMul, Nat.reduceLeDiff, Nat.reduceLT, reduceIte, reduceCtorEq, Nat.succ_ne_zero, elemsC, Int.reduceToNat, Nat.reducePow]) | (simp (disch := (first | omega | (simp only [AL, List.length_map]; omega))) only [AR, AL, ifT, ifF, take_all, List.length_cons, List.length_nil, Int.reduceToNat, Int.reducePow, Nat.reducePow]) | (refine wk_intro (by kernel_rfl) ?_) | (refine vp_draw (id := 1) (l := []) (by kernel_rfl) ?_))
theorem neg_num {x : Rat} : decide (x.num < 0) = decide (x < 0) := by
  have h := Rat.num_nonneg (q := x)
  refine decide_eq_decide.2 ⟨fun g => ?_, fun g => ?_⟩
  · have : ¬ 0 ≤ x := fun k => absurd (h.2 k) (by omega)
    grind
  · rcases Int.lt_or_le x.num 0 with k | k
    · exact k
    · exact absurd (h.1 k) (by grind)
section
variable {v : SV} {x : Rat} {A B p L : Nat}
theorem erv {x : Rat} (h : decide (x.num < 0) = false) : rv x = ratV false (lim x.num.natAbs) (lim x.den) := by show ratV (decide (x.num < 0)) _ _ = _; rw [h]
theorem incb_I_out {a b : Int} {pI : Int} (hv : RatA v x L) (hL1 : 1 ≤ L) (hL : L ≤ 3) (ha : 1 ≤ a ∧ a ≤ 256) (hb : 1 ≤ b ∧ b ≤ 256) (h : x < 0 ∨ 1 < x) : Go.Ev.Fn CX 15 [.int .i64 a, .int .i64 b, v, .int .i64 pI] (.tup [ballR 0 0, .bool false]) := by
  have n1 := rat_Norm hv (by omega)
  have zx := szR_of hv hL1
  have i1 := rat_Int 1 (by omega)
  have i0 := rat_Int 0 (by omega)
  have o := ball_Of (RatA_rv (int_szR (n := 0) (by omega))) (by omega)
  rw [show ((0 : Int) : Rat) = 0 from rfl] at i0 o
  have c1 := rat_Cmp (RatA_rv zx) (RatA_rv (int_szR (n := 1) (by omega))) hL1 (by omega) (by omega)
  rw [show ((1 : Int) : Rat) = 1 from rfl] at i1 c1
  have e1 : decide (cmpR x 1 > 0) = decide (1 < x) := cmpR_gt
  have en := neg_num (x := x)
  obtain ⟨s, n, d, rfl, -⟩ := hv
  by_cases hx : x < 0
  · rw [decide_eq_true hx] at en
    generalize cmpR x 1 = z at *
    refine Go.Ev.Fn.intro (fn := Tryz.f15) (body := (Tryz.f15).body.get!) (by kernel_rfl) (by kernel_rfl) (by kernel_rfl) (fun _ => rfl) (Nat.le_of_ble_eq_true (by kernel_rfl)) ?_; unfold Tryz.f15; simp only [Option.get!_some]
    repeat (first | (simp only [go_sem, Nat.reduceEqDiff, Nat.reduceAdd, Nat.reduceSub, Nat.reduceMul, Nat.reduceLeDiff, Nat.reduceLT, reduceIte, reduceCtorEq, Nat.succ_ne_zero, elemsC, Int.reduceToNat, Nat.reducePow, en]) | (simp (disch := (first | omega | (simp only [AL, List.length_map]; omega))) only [AR, AL, ifT, ifF, take_all, List.length_cons, List.length_nil, Int.reduceToNat, Int.reducePow, Nat.reducePow, en]) | (refine wk_intro (by kernel_rfl) ?_) | (refine vp_draw (id := 9) (l := []) (by kernel_rfl) ?_) | (refine vp_draw (id := 11) (l := []) (by kernel_rfl) ?_) | (refine vf_of (by first | exact n1 | exact i1 | exact c1 | exact i0 | exact o) ?_))
  · rw [decide_eq_false hx] at en
    rw [decide_eq_true (h.resolve_left hx)] at e1
    rw [erv en] at n1 c1
    generalize cmpR x 1 = z at *
    refine Go.Ev.Fn.intro (fn := Tryz.f15) (body := (Tryz.f15).body.get!) (by kernel_rfl) (by kernel_rfl) (by kernel_rfl) (fun _ => rfl) (Nat.le_of_ble_eq_true (by kernel_rfl)) ?_; unfold Tryz.f15; simp only [Option.get!_some]
    repeat (first | (simp only [go_sem, Nat.reduceEqDiff, Nat.reduceAdd, Nat.reduceSub, Nat.reduceMul, Nat.reduceLeDiff, Nat.reduceLT, reduceIte, reduceCtorEq, Nat.succ_ne_zero, elemsC, Int.reduceToNat, Nat.reducePow, en, e1]) | (simp (disch := (first | omega | (simp only [AL, List.length_map]; omega))) only [AR, AL, ifT, ifF, take_all, List.length_cons, List.length_nil, Int.reduceToNat, Int.reducePow, Nat.reducePow, en, e1]) | (refine wk_intro (by kernel_rfl) ?_) | (refine vp_draw (id := 9) (l := []) (by kernel_rfl) ?_) | (refine vp_draw (id := 11) (l := []) (by kernel_rfl) ?_) | (refine vf_of (by first | exact n1 | exact i1 | exact c1 | exact i0 | exact o) ?_))
theorem incb_I_ends {a b : Int} {pI : Int} (hv : RatA v x L) (hL1 : 1 ≤ L) (hL : L ≤ 3) (ha : 1 ≤ a ∧ a ≤ 256) (hb : 1 ≤ b ∧ b ≤ 256) (h : x = 0 ∨ x = 1) : Go.Ev.Fn CX 15 [.int .i64 a, .int .i64 b, v, .int .i64 pI] (.tup [ballR x x, .bool true]) := by
  have n1 := rat_Norm hv (by omega)
  have zx := szR_of hv hL1
  have i1 := rat_Int 1 (by omega)
  have o := ball_Of (RatA_rv zx) (by omega)
  have c1 := rat_Cmp (RatA_rv zx) (RatA_rv (int_szR (n := 1) (by omega))) hL1 (by omega) (by omega)
  have zr := rat_Zero (RatA_rv zx) hL1 (by omega)
  have sm := rat_Same (RatA_rv zx) (RatA_rv (int_szR (n := 1) (by omega))) hL1 (by omega) (by omega)
  rw [show ((1 : Int) : Rat) = 1 from rfl] at i1 c1 sm
  have e1 : decide (cmpR x 1 > 0) = false := by rw [cmpR_gt]; exact decide_eq_false (by rcases h with rfl | rfl <;> decide +kernel)
  have en : decide (x.num < 0) = false := by rw [neg_num]; exact decide_eq_false (by rcases h with rfl | rfl <;> decide +kernel)
  rw [erv en] at n1 c1 zr sm o
  obtain ⟨s, n, d, rfl, -⟩ := hv
  generalize cmpR x 1 = z at *
  by_cases hx : x = 0
  · rw [decide_eq_true hx] at zr
    clear hx h
    refine Go.Ev.Fn.intro (fn := Tryz.f15) (body := (Tryz.f15).body.get!) (by kernel_rfl) (by kernel_rfl) (by kernel_rfl) (fun _ => rfl) (Nat.le_of_ble_eq_true (by kernel_rfl)) ?_; unfold Tryz.f15; simp only [Option.get!_some]
    repeat (first | (simp only [go_sem, Nat.reduceEqDiff, Nat.reduceAdd, Nat.reduceSub, Nat.reduceMul, Nat.reduceLeDiff, Nat.reduceLT, reduceIte, reduceCtorEq, Nat.succ_ne_zero, elemsC, Int.reduceToNat, Nat.reducePow, en, e1]) | (simp (disch := (first | omega | (simp only [AL, List.length_map]; omega))) only [AR, AL, ifT, ifF, take_all, List.length_cons, List.length_nil, Int.reduceToNat, Int.reducePow, Nat.reducePow, en, e1]) | (refine wk_intro (by kernel_rfl) ?_) | (refine vp_draw (id := 9) (l := []) (by kernel_rfl) ?_) | (refine vp_draw (id := 11) (l := []) (by kernel_rfl) ?_) | (refine vf_of (by first | exact n1 | exact i1 | exact c1 | exact zr | exact o) ?_))
    show _ = SV.agg [.bool (decide (x.num < 0)), natV (lim x.num.natAbs), natV (lim x.den), .bool (decide (x.num < 0)), natV (lim x.num.natAbs), natV (lim x.den)]
    rw [en]
  · rw [decide_eq_false hx] at zr
    rw [decide_eq_true (h.resolve_left hx)] at sm
    clear hx h
    refine Go.Ev.Fn.intro (fn := Tryz.f15) (body := (Tryz.f15).body.get!) (by kernel_rfl) (by kernel_rfl) (by kernel_rfl) (fun _ => rfl) (Nat.le_of_ble_eq_true (by kernel_rfl)) ?_; unfold Tryz.f15; simp only [Option.get!_some]
    repeat (first | (simp only [go_sem, Nat.reduceEqDiff, Nat.reduceAdd, Nat.reduceSub, Nat.reduceMul, Nat.reduceLeDiff, Nat.reduceLT, reduceIte, reduceCtorEq, Nat.succ_ne_zero, elemsC, Int.reduceToNat, Nat.reducePow, en, e1]) | (simp (disch := (first | omega | (simp only [AL, List.length_map]; omega))) only [AR, AL, ifT, ifF, take_all, List.length_cons, List.length_nil, Int.reduceToNat, Int.reducePow, Nat.reducePow, en, e1]) | (refine wk_intro (by kernel_rfl) ?_) | (refine vp_draw (id := 9) (l := []) (by kernel_rfl) ?_) | (refine vp_draw (id := 11) (l := []) (by kernel_rfl) ?_) | (refine vf_of (by first | exact n1 | exact i1 | exact c1 | exact zr | exact sm | exact o) ?_))
    show _ = SV.agg [.bool (decide (x.num < 0)), natV (lim x.num.natAbs), natV (lim x.den), .bool (decide (x.num < 0)), natV (lim x.num.natAbs), natV (lim x.den)]
    rw [en]
set_option maxHeartbeats 1000000 in
theorem incb_I_low {A' B' K : Nat} (hv : RatA v x L) (hL1 : 1 ≤ L) (hL : L ≤ 3) (hA : 1 ≤ A) (hB : 1 ≤ B) (hAB : A + B ≤ 10) (hp : p ≤ 60) (h0 : 0 < x) (h1 : x + x ≤ 1)
    (hg : rowGo (p + 300) (unN x (p + 300)) (unN x (p + 300) + 1) (2 * A) (2 * B) 2201 0 (fsN x A B (p + 300)).1 (fsN x A B (p + 300)).2 (fsN x A B (p + 300)).1 (fsN x A B (p + 300)).2 = some (A', B', K)) (hl : (lim A').length ≤ 100 ∧ (lim B').length ≤ 100) :
    Go.Ev.Fn CX 15 [.int .i64 (2 * (A : Int)), .int .i64 (2 * (B : Int)), v, .int .i64 (p : Int)] (.tup [ballR (mkRat ((A' / 2 ^ (p + 300 - (p + 2)) : Nat) : Int) (2 ^ (p + 2))) (mkRat ((B' / 2 ^ (p + 300 - (p + 2)) + 1 : Nat) : Int) (2 ^ (p + 2))), .bool true]) := by
  have n1 := rat_Norm hv (by omega)
  have zx := szR_of hv hL1
  have i1 := rat_Int 1 (by omega)
  have c1 := rat_Cmp (RatA_rv zx) (RatA_rv (int_szR (n := 1) (by omega))) hL1 (by omega) (by omega)
  have zr := rat_Zero (RatA_rv zx) hL1 (by omega)
  rw [decide_eq_false (by clear hg; grind)] at zr
  have sm := rat_Same (RatA_rv zx) (RatA_rv (int_szR (n := 1) (by omega))) hL1 (by omega) (by omega)
  have ad := rat_Add (RatA_rv zx) (RatA_rv zx) hL1 hL1 (by omega)
  have c2 := rat_Cmp (RatA_rv (szR_add zx zx hL1)) (RatA_rv (int_szR (n := 1) (by omega))) (by omega) (by omega) (by omega)
  rw [show ((1 : Int) : Rat) = 1 from rfl] at i1 c1 sm c2
  rw [decide_eq_false (show ¬ x = 1 by clear hg; grind)] at sm
  have e1 : decide (cmpR x 1 > 0) = false := by rw [cmpR_gt]; exact decide_eq_false (by clear hg; grind)
  have e2 : decide (cmpR (x + x) 1 ≤ 0) = true := by rw [cmpR_le]; exact decide_eq_true h1
  have en : decide (x.num < 0) = false := by rw [neg_num]; exact decide_eq_false (by clear hg; grind)
  have rw1 := incb_row (w := p + 300) hA hB hAB zx hL1 hL (show 0 ≤ x by clear hg; grind) h1 (by omega) (by omega) hg
  have td := fix_Told (a := A') (b := B') (w := p + 300) (p := p + 2) (by omega) (by omega) (by omega) (by omega)
  have x1 : (if (0 : Int) > (p : Int) then (0 : Int) else (p : Int)) = (p : Int) := if_neg (by omega)
  have x2 : (if (200 : Int) < (p : Int) then (200 : Int) else (p : Int)) = (p : Int) := if_neg (by omega)
  rw [show ((p + 300 : Nat) : Int) = (p : Int) + 300 from rfl] at rw1 td
  rw [show ((p + 2 : Nat) : Int) = (p : Int) + 2 from rfl] at td
  generalize mkRat ((A' / 2 ^ (p + 300 - (p + 2)) : Nat) : Int) (2 ^ (p + 2)) = q1 at *
  generalize mkRat ((B' / 2 ^ (p + 300 - (p + 2)) + 1 : Nat) : Int) (2 ^ (p + 2)) = q2 at *
  rw [erv en] at n1 c1 zr sm ad rw1
  obtain ⟨s, n, d, rfl, -⟩ := hv
  clear hg h0 h1
  generalize cmpR x 1 = z at *
  generalize x + x = xx at *
  generalize cmpR xx 1 = z2 at *
  refine Go.Ev.Fn.intro (fn := Tryz.f15) (body := (Tryz.f15).body.get!) (by kernel_rfl) (by kernel_rfl) (by kernel_rfl) (fun _ => rfl) (Nat.le_of_ble_eq_true (by kernel_rfl)) ?_; unfold Tryz.f15; simp only [Option.get!_some]
  repeat (first | (simp only [go_sem, Nat.reduceEqDiff, Nat.reduceAdd, Nat.reduceSub, Nat.reduceMul, Nat.reduceLeDiff, Nat.reduceLT, reduceIte, reduceCtorEq, Nat.succ_ne_zero, elemsC, Int.reduceToNat, Nat.reducePow, en, x1, x2, e1, e2]) | (simp (disch := (first | omega | (simp only [AL, List.length_map]; omega))) only [AR, AL, ifT, ifF, take_all, List.length_cons, List.length_nil, Int.reduceToNat, Int.reducePow, Nat.reducePow, en, x1, x2, e1, e2]) | (refine wk_intro (by kernel_rfl) ?_) | (refine vp_draw (id := 9) (l := []) (by kernel_rfl) ?_) | (refine vp_draw (id := 11) (l := []) (by kernel_rfl) ?_) | (refine vf_of (by first | exact n1 | exact i1 | exact c1 | exact zr | exact sm | exact ad | exact c2 | exact rw1 | exact td) ?_))
set_option maxHeartbeats 1000000 in
theorem incb_I_high {A' B' K : Nat} (hv : RatA v x L) (hL1 : 1 ≤ L) (hL : L ≤ 1) (hA : 1 ≤ A) (hB : 1 ≤ B) (hAB : A + B ≤ 10) (hp : p ≤ 60) (h0 : 1 < x + x) (h1 : x < 1)
    (hg : rowGo (p + 300) (unN (1 - x) (p + 300)) (unN (1 - x) (p + 300) + 1) (2 * B) (2 * A) 2201 0 (fsN (1 - x) B A (p + 300)).1 (fsN (1 - x) B A (p + 300)).2 (fsN (1 - x) B A (p + 300)).1 (fsN (1 - x) B A (p + 300)).2 = some (A', B', K)) (hl : (lim A').length ≤ 100 ∧ (lim B').length ≤ 100) :
    Go.Ev.Fn CX 15 [.int .i64 (2 * (A : Int)), .int .i64 (2 * (B : Int)), v, .int .i64 (p : Int)] (.tup [ballR (1 - mkRat ((B' / 2 ^ (p + 300 - (p + 2)) + 1 : Nat) : Int) (2 ^ (p + 2))) (1 - mkRat ((A' / 2 ^ (p + 300 - (p + 2)) : Nat) : Int) (2 ^ (p + 2))), .bool true]) := by
  have n1 := rat_Norm hv (by omega)
  have zx := szR_of hv hL1
  have i1 := rat_Int 1 (by omega)
  have c1 := rat_Cmp (RatA_rv zx) (RatA_rv (int_szR (n := 1) (by omega))) hL1 (by omega) (by omega)
  have zr := rat_Zero (RatA_rv zx) hL1 (by omega)
  rw [decide_eq_false (by clear hg; grind)] at zr
  have sm := rat_Same (RatA_rv zx) (RatA_rv (int_szR (n := 1) (by omega))) hL1 (by omega) (by omega)
  have ad := rat_Add (RatA_rv zx) (RatA_rv zx) hL1 hL1 (by omega)
  have c2 := rat_Cmp (RatA_rv (szR_add zx zx hL1)) (RatA_rv (int_szR (n := 1) (by omega))) (by omega) (by omega) (by omega)
  have b1 := ball_Of (RatA_rv (int_szR (n := 1) (by omega))) (by omega)
  have sb := rat_Sub (RatA_rv (int_szR (n := 1) (by omega))) (RatA_rv zx) (by omega) hL1 (by omega)
  have one1 : szR 1 1 := ⟨lim_len_lt (by decide +kernel), lim_len_lt (by decide +kernel)⟩
  have zy := szR_sub one1 zx (by omega)
  rw [show ((1 : Int) : Rat) = 1 from rfl] at i1 c1 sm c2 b1 sb
  rw [decide_eq_false (show ¬ x = 1 by clear hg; grind)] at sm
  have e1 : decide (cmpR x 1 > 0) = false := by rw [cmpR_gt]; exact decide_eq_false (by clear hg; grind)
  have e2 : decide (cmpR (x + x) 1 ≤ 0) = false := by rw [cmpR_le]; exact decide_eq_false (by clear hg; grind)
  have en : decide (x.num < 0) = false := by rw [neg_num]; exact decide_eq_false (by clear hg; grind)
  have rw1 := incb_row (w := p + 300) hB hA (by omega) zy (by omega) (by omega) (show 0 ≤ 1 - x by clear hg; grind) (by clear hg; grind) (by omega) (by omega) hg
  have td := fix_Told (a := A') (b := B') (w := p + 300) (p := p + 2) (by omega) (by omega) (by omega) (by omega)
  have l3 := lim_len_mono (Nat.div_le_self A' (2 ^ (p + 300 - (p + 2))))
  have l4 := lim_len_mono (Nat.div_le_self B' (2 ^ (p + 300 - (p + 2))))
  have l1 := lim_len1
  have l5 := lim_len_add (a := B' / 2 ^ (p + 300 - (p + 2))) (b := 1) (L := 100) (by omega) (by omega)
  have lp := lim_len_shl (a := 1) (n := p + 2)
  rw [Nat.one_mul] at lp
  have z1 := szR_mk (s := false) (n := A' / 2 ^ (p + 300 - (p + 2))) (d := 2 ^ (p + 2)) (L := 101) (by omega) (by omega) (by omega)
  have z2 := szR_mk (s := false) (n := B' / 2 ^ (p + 300 - (p + 2)) + 1) (d := 2 ^ (p + 2)) (L := 101) (by omega) (by omega) (by omega)
  rw [show sgn false (A' / 2 ^ (p + 300 - (p + 2))) = ((A' / 2 ^ (p + 300 - (p + 2)) : Nat) : Int) from rfl] at z1
  rw [show sgn false (B' / 2 ^ (p + 300 - (p + 2)) + 1) = ((B' / 2 ^ (p + 300 - (p + 2)) + 1 : Nat) : Int) from rfl] at z2
  have bs := ball_Sub (a := 1) (b := 1) (L := 101) (szR_mono one1 (by omega)) (szR_mono one1 (by omega)) z1 z2 (by omega) (by omega)
  have x1 : (if (0 : Int) > (p : Int) then (0 : Int) else (p : Int)) = (p : Int) := if_neg (by omega)
  have x2 : (if (200 : Int) < (p : Int) then (200 : Int) else (p : Int)) = (p : Int) := if_neg (by omega)
  rw [show ((p + 300 : Nat) : Int) = (p : Int) + 300 from rfl] at rw1 td
  rw [show ((p + 2 : Nat) : Int) = (p : Int) + 2 from rfl] at td
  generalize mkRat ((A' / 2 ^ (p + 300 - (p + 2)) : Nat) : Int) (2 ^ (p + 2)) = q1 at *
  generalize mkRat ((B' / 2 ^ (p + 300 - (p + 2)) + 1 : Nat) : Int) (2 ^ (p + 2)) = q2 at *
  generalize 1 - q2 = w1 at *
  generalize 1 - q1 = w2 at *
  rw [erv en] at n1 c1 zr sm ad sb
  obtain ⟨s, n, d, rfl, -⟩ := hv
  clear hg h0 h1
  generalize cmpR x 1 = z at *
  generalize x + x = xx at *
  generalize cmpR xx 1 = z2' at *
  generalize 1 - x = y at *
  refine Go.Ev.Fn.intro (fn := Tryz.f15) (body := (Tryz.f15).body.get!) (by kernel_rfl) (by kernel_rfl) (by kernel_rfl) (fun _ => rfl) (Nat.le_of_ble_eq_true (by kernel_rfl)) ?_; unfold Tryz.f15; simp only [Option.get!_some]
  repeat (first | (simp only [go_sem, Nat.reduceEqDiff, Nat.reduceAdd, Nat.reduceSub, Nat.reduceMul, Nat.reduceLeDiff, Nat.reduceLT, reduceIte, reduceCtorEq, Nat.succ_ne_zero, elemsC, Int.reduceToNat, Nat.reducePow, en, x1, x2, e1, e2]) | (simp (disch := (first | omega | (simp only [AL, List.length_map]; omega))) only [AR, AL, ifT, ifF, take_all, List.length_cons, List.length_nil, Int.reduceToNat, Int.reducePow, Nat.reducePow, en, x1, x2, e1, e2]) | (refine wk_intro (by kernel_rfl) ?_) | (refine vp_draw (id := 9) (l := []) (by kernel_rfl) ?_) | (refine vp_draw (id := 11) (l := []) (by kernel_rfl) ?_) | (refine vf_of (by first | exact n1 | exact i1 | exact c1 | exact zr | exact sm | exact ad | exact c2 | exact b1 | exact sb | exact rw1 | exact td | exact bs) ?_))
end
end Go.Proofs.YthbjgdmcnonofaaGreat

/- vernierref2.Is; vernierref4: Of, Is, Width, Bit, Hold, Side, Good, Same, in the evaluator. -/
namespace Go.Proofs.YthbjgdmcnonofaaGreat
set_option linter.unusedSimpArgs false
set_option linter.unusedVariables false
set_option maxRecDepth 8000
open Go.Ev
theorem beq_true_self (b : Bool) : (b == b) = true := by cases b <;> rfl
theorem ref2_Is {q : Rat} {L : Nat} (hq : szR q L) (hL : L ≤ 1000000) : Go.Ev.Fn CX 85 [rv q] (.bool true) := by
  have n1 := ref2_Norm (RatA_rv hq) (by omega)
  have l1 := ref2_limbs (lim q.num.natAbs) (lim q.num.natAbs) (by have := hq.1; omega) (by have := hq.1; omega)
  have l2 := ref2_limbs (lim q.den) (lim q.den) (by have := hq.2; omega) (by have := hq.2; omega)
  rw [decide_eq_true rfl] at l1 l2
  have hb := beq_true_self (decide (q.num < 0))
  refine Go.Ev.Fn.intro (fn := Tryz.f85) (body := (Tryz.f85).body.get!) (by kernel_rfl) (by kernel_rfl) (by kernel_rfl) (fun _ => rfl) (Nat.le_of_ble_eq_true (by kernel_rfl)) ?_; unfold Tryz.f85; simp only [Option.get!_some]
  repeat (first | (simp only [go_sem, Nat.reduceEqDiff, Nat.reduceAdd, Nat.reduceSub, Nat.reduceMul, Nat.reduceLeDiff, Nat.reduceLT, reduceIte, reduceCtorEq, Nat.succ_ne_zero, elemsC, Int.reduceToNat, Nat.reducePow, hb]) | (simp (disch := (first | omega | (simp only [AL, List.length_map]; omega))) only [AR, AL, ifT, ifF, take_all, List.length_cons, List.length_nil, Int.reduceToNat, Int.reducePow, Nat.reducePow, hb]) | (refine wk_intro (by kernel_rfl) ?_) | (refine vf_of (by first | exact n1 | exact l1 | exact l2) ?_))
theorem ref4_Of {v : SV} {q : Rat} {L : Nat} (hv : RatA v q L) (hL : L ≤ 1000000) : Go.Ev.Fn CX 10 [v] (ballR q q) := by
  have n1 := ref2_Norm hv (by omega)
  obtain ⟨s, n, d, rfl, -⟩ := hv
  refine Go.Ev.Fn.intro (fn := Tryz.f10) (body := (Tryz.f10).body.get!) (by kernel_rfl) (by kernel_rfl) (by kernel_rfl) (fun _ => rfl) (Nat.le_of_ble_eq_true (by kernel_rfl)) ?_; unfold Tryz.f10; simp only [Option.get!_some]
  repeat (first | (simp only [go_sem, Nat.reduceEqDiff, Nat.reduceAdd, Nat.reduceSub, Nat.reduceMul, Nat.reduceLeDiff, Nat.reduceLT, reduceIte, reduceCtorEq, Nat.succ_ne_zero, elemsC, Int.reduceToNat, Nat.reducePow]) | (simp (disch := (first | omega | (simp only [AL, List.length_map]; omega))) only [AR, AL, ifT, ifF, take_all, List.length_cons, List.length_nil, Int.reduceToNat, Int.reducePow, Nat.reducePow]) | (refine wk_intro (by kernel_rfl) ?_) | (refine vp_draw (id := 1) (l := []) (by kernel_rfl) ?_) | (refine vf_of (by first | exact n1) ?_))
section
variable {a b c d : Rat} {L M : Nat}
theorem ref4_Is (ha : szR a L) (hb : szR b L) (hL1 : 1 ≤ L) (hL : L ≤ 100000) (h : a ≤ b) : Go.Ev.Fn CX 38 [ballR a b] (.bool true) := by
  have i1 := ref2_Is ha (by omega)
  have i2 := ref2_Is hb (by omega)
  have c1 := ref2_Cmp (RatA_rv ha) (RatA_rv hb) hL1 hL1 (by omega)
  have e1 : decide (cmpR a b ≤ 0) = true := by rw [cmpR_le]; exact decide_eq_true h
  generalize cmpR a b = z at *
  refine Go.Ev.Fn.intro (fn := Tryz.f38) (body := (Tryz.f38).body.get!) (by kernel_rfl) (by kernel_rfl) (by kernel_rfl) (fun _ => rfl) (Nat.le_of_ble_eq_true (by kernel_rfl)) ?_; unfold Tryz.f38; simp only [Option.get!_some]
  repeat (first | (simp only [go_sem, Nat.reduceEqDiff, Nat.reduceAdd, Nat.reduceSub, Nat.reduceMul, Nat.reduceLeDiff, Nat.reduceLT, reduceIte, reduceCtorEq, Nat.succ_ne_zero, elemsC, Int.reduceToNat, Nat.reducePow, e1]) | (simp (disch := (first | omega | (simp only [AL, List.length_map]; omega))) only [AR, AL, ifT, ifF, take_all, List.length_cons, List.length_nil, Int.reduceToNat, Int.reducePow, Nat.reducePow, e1]) | (refine wk_intro (by kernel_rfl) ?_) | (refine vf_of (by first | exact i1 | exact i2 | exact c1) ?_))
theorem ref4_Width (ha : szR a L) (hb : szR b L) (hL1 : 1 ≤ L) (hL : L ≤ 100000) : Go.Ev.Fn CX 40 [ballR a b] (rv (b - a)) := by
  have s := ref2_Sub (RatA_rv hb) (RatA_rv ha) hL1 hL1 (by omega)
  refine Go.Ev.Fn.intro (fn := Tryz.f40) (body := (Tryz.f40).body.get!) (by kernel_rfl) (by kernel_rfl) (by kernel_rfl) (fun _ => rfl) (Nat.le_of_ble_eq_true (by kernel_rfl)) ?_; unfold Tryz.f40; simp only [Option.get!_some]
  repeat (first | (simp only [go_sem, Nat.reduceEqDiff, Nat.reduceAdd, Nat.reduceSub, Nat.reduceMul, Nat.reduceLeDiff, Nat.reduceLT, reduceIte, reduceCtorEq, Nat.succ_ne_zero, elemsC, Int.reduceToNat, Nat.reducePow]) | (simp (disch := (first | omega | (simp only [AL, List.length_map]; omega))) only [AR, AL, ifT, ifF, take_all, List.length_cons, List.length_nil, Int.reduceToNat, Int.reducePow, Nat.reducePow]) | (refine wk_intro (by kernel_rfl) ?_) | (refine vf_of (by first | exact s) ?_))
theorem ref4_Bit {p : Nat} (hp : p ≤ 512) : Go.Ev.Fn CX 41 [.int .i64 (p : Int)] (rv (mkRat 1 (2 ^ p))) := by
  have s := ref1_shl (N := 1) (m := p) (by rw [lim_one]; simp) (by omega)
  rw [Nat.one_mul, lim_one] at s
  have l := lim_len_shl (a := 1) (n := p)
  have l1 := lim_len1
  rw [Nat.one_mul] at l
  have o := ref2_OfL (s := false) (n := 1) (d := 2 ^ p) (by omega) (by omega)
  rw [lim_one, show sgn false 1 = 1 from rfl] at o
  generalize mkRat 1 (2 ^ p) = r at *
  generalize 2 ^ p = P at *
  refine Go.Ev.Fn.intro (fn := Tryz.f41) (body := (Tryz.f41).body.get!) (by kernel_rfl) (by kernel_rfl) (by kernel_rfl) (fun _ => rfl) (Nat.le_of_ble_eq_true (by kernel_rfl)) ?_; unfold Tryz.f41; simp only [Option.get!_some]
  repeat (first | (simp only [go_sem, Nat.reduceEqDiff, Nat.reduceAdd, Nat.reduceSub, Nat.reduceMul, Nat.reduceLeDiff, Nat.reduceLT, reduceIte, reduceCtorEq, Nat.succ_ne_zero, elemsC, Int.reduceToNat, Nat.reducePow]) | (simp (disch := (first | omega | (simp only [AL, List.length_map]; omega))) only [AR, AL, ifT, ifF, take_all, List.length_cons, List.length_nil, Int.reduceToNat, Int.reducePow, Nat.reducePow]) | (refine wk_intro (by kernel_rfl) ?_) | (refine vf_of (by first | exact s | exact o) ?_))
theorem ref4_Hold {p : Int} {P : Nat} (h : (p ≤ 0 ∧ P = 0) ∨ p = (P : Int)) (hP : P ≤ 512) : Go.Ev.Fn CX 42 [.int .i64 p] (.int .i64 (P : Int)) := by
  have e1 : (if (0 : Int) > p then (0 : Int) else p) = (P : Int) := by split <;> omega
  have e2 : (if (512 : Int) < (P : Int) then (512 : Int) else (P : Int)) = (P : Int) := if_neg (by omega)
  refine Go.Ev.Fn.intro (fn := Tryz.f42) (body := (Tryz.f42).body.get!) (by kernel_rfl) (by kernel_rfl) (by kernel_rfl) (fun _ => rfl) (Nat.le_of_ble_eq_true (by kernel_rfl)) ?_; unfold Tryz.f42; simp only [Option.get!_some]
  repeat (first | (simp only [go_sem, Nat.reduceEqDiff, Nat.reduceAdd, Nat.reduceSub, Nat.reduceMul, Nat.reduceLeDiff, Nat.reduceLT, reduceIte, reduceCtorEq, Nat.succ_ne_zero, elemsC, Int.reduceToNat, Nat.reducePow, e1, e2]) | (simp (disch := (first | omega | (simp only [AL, List.length_map]; omega))) only [AR, AL, ifT, ifF, take_all, List.length_cons, List.length_nil, Int.reduceToNat, Int.reducePow, Nat.reducePow, e1, e2]) | (refine wk_intro (by kernel_rfl) ?_))
theorem ref4_Side0 (ha : szR a L) (hb : szR b L) (hc : szR c M) (hd : szR d M) (hL1 : 1 ≤ L) (hM1 : 1 ≤ M) (hL : L + M ≤ 100000) (h1 : c ≤ b) (h2 : a ≤ d) : Go.Ev.Fn CX 43 [ballR a b, ballR c d] (.int .i64 0) := by
  have c1 := ref2_Cmp (RatA_rv hb) (RatA_rv hc) hL1 hM1 (by omega)
  have c2 := ref2_Cmp (RatA_rv ha) (RatA_rv hd) hL1 hM1 (by omega)
  have e1 : decide (cmpR b c < 0) = false := by rw [cmpR_lt]; exact decide_eq_false (by grind)
  have e2 : decide (cmpR a d > 0) = false := by rw [cmpR_gt]; exact decide_eq_false (by grind)
  generalize cmpR b c = z1 at *
  generalize cmpR a d = z2 at *
  refine Go.Ev.Fn.intro (fn := Tryz.f43) (body := (Tryz.f43).body.get!) (by kernel_rfl) (by kernel_rfl) (by kernel_rfl) (fun _ => rfl) (Nat.le_of_ble_eq_true (by kernel_rfl)) ?_; unfold Tryz.f43; simp only [Option.get!_some]
  repeat (first | (simp only [go_sem, Nat.reduceEqDiff, Nat.reduceAdd, Nat.reduceSub, Nat.reduceMul, Nat.reduceLeDiff, Nat.reduceLT, reduceIte, reduceCtorEq, Nat.succ_ne_zero, elemsC, Int.reduceToNat, Nat.reducePow, e1, e2]) | (simp (disch := (first | omega | (simp only [AL, List.length_map]; omega))) only [AR, AL, ifT, ifF, take_all, List.length_cons, List.length_nil, Int.reduceToNat, Int.reducePow, Nat.reducePow, e1, e2]) | (refine wk_intro (by kernel_rfl) ?_) | (refine vf_of (by first | exact c1 | exact c2) ?_))
/-- A ball that is narrow, and meets another one, is good. -/
theorem ref4_Good {p : Int} {P : Nat} (hp : (p ≤ 0 ∧ P = 0) ∨ p = (P : Int)) (hP : P ≤ 512) (ha : szR a L) (hb : szR b L) (hc : szR c M) (hd : szR d M) (hL1 : 1 ≤ L) (hM1 : 1 ≤ M) (hL : L + M ≤ 100000) (h0 : a ≤ b) (h1 : c ≤ b) (h2 : a ≤ d) (hw : (b - a) * p2 P ≤ 1) :
    Go.Ev.Fn CX 12 [ballR a b, ballR c d, .int .i64 p] (.bool true) := by
  have i := ref4_Is ha hb hL1 (by omega) h0
  have w := ref4_Width ha hb hL1 (by omega)
  have hh := ref4_Hold hp hP
  have bt := ref4_Bit hP
  have l := lim_len_shl (a := 1) (n := P)
  have l1 := lim_len1
  rw [Nat.one_mul] at l
  have zb : szR (mkRat 1 (2 ^ P)) 20 := szR_mk (s := false) (n := 1) (d := 2 ^ P) (by omega) (by omega) (by omega)
  have zw := szR_sub hb ha hL1
  have c1 := ref2_Cmp (RatA_rv zw) (RatA_rv zb) (by omega) (by omega) (by omega)
  have e0 : b - a ≤ mkRat 1 (2 ^ P) := by
    refine le_by (p2_pos P) ?_
    have : mkRat 1 (2 ^ P) * p2 P = 1 := by
      rw [Rat.mkRat_eq_div]
      exact Rat.div_mul_cancel (by have : (0 : Rat) < p2 P := p2_pos P; grind)
    rw [this]; exact hw
  have e1 : decide (cmpR (b - a) (mkRat 1 (2 ^ P)) ≤ 0) = true := by rw [cmpR_le]; exact decide_eq_true e0
  have sd := ref4_Side0 ha hb hc hd hL1 hM1 (by omega) h1 h2
  generalize cmpR (b - a) (mkRat 1 (2 ^ P)) = z at *
  generalize mkRat 1 (2 ^ P) = r at *
  generalize b - a = x at *
  refine Go.Ev.Fn.intro (fn := Tryz.f12) (body := (Tryz.f12).body.get!) (by kernel_rfl) (by kernel_rfl) (by kernel_rfl) (fun _ => rfl) (Nat.le_of_ble_eq_true (by kernel_rfl)) ?_; unfold Tryz.f12; simp only [Option.get!_some]
  repeat (first | (simp only [go_sem, Nat.reduceEqDiff, Nat.reduceAdd, Nat.reduceSub, Nat.reduceMul, Nat.reduceLeDiff, Nat.reduceLT, reduceIte, reduceCtorEq, Nat.succ_ne_zero, elemsC, Int.reduceToNat, Nat.reducePow, e1]) | (simp (disch := (first | omega | (simp only [AL, List.length_map]; omega))) only [AR, AL, ifT, ifF, take_all, List.length_cons, List.length_nil, Int.reduceToNat, Int.reducePow, Nat.reducePow, e1]) | (refine wk_intro (by kernel_rfl) ?_) | (refine vf_of (by first | exact i | exact w | exact hh | exact bt | exact c1 | exact sd) ?_))
theorem ref4_Same (ha : szR a L) (hb : szR b L) (hL1 : 1 ≤ L) (hL : L ≤ 100000) : Go.Ev.Fn CX 9 [ballR a b, ballR a b] (.bool true) := by
  have s1 := ref2_Same (RatA_rv ha) (RatA_rv ha) hL1 hL1 (by omega)
  have s2 := ref2_Same (RatA_rv hb) (RatA_rv hb) hL1 hL1 (by omega)
  rw [decide_eq_true rfl] at s1 s2
  refine Go.Ev.Fn.intro (fn := Tryz.f9) (body := (Tryz.f9).body.get!) (by kernel_rfl) (by kernel_rfl) (by kernel_rfl) (fun _ => rfl) (Nat.le_of_ble_eq_true (by kernel_rfl)) ?_; unfold Tryz.f9; simp only [Option.get!_some]
  repeat (first | (simp only [go_sem, Nat.reduceEqDiff, Nat.reduceAdd, Nat.reduceSub, Nat.reduceMul, Nat.reduceLeDiff, Nat.reduceLT, reduceIte, reduceCtorEq, Nat.succ_ne_zero, elemsC, Int.reduceToNat, Nat.reducePow]) | (simp (disch := (first | omega | (simp only [AL, List.length_map]; omega))) only [AR, AL, ifT, ifF, take_all, List.length_cons, List.length_nil, Int.reduceToNat, Int.reducePow, Nat.reducePow]) | (refine wk_intro (by kernel_rfl) ?_) | (refine vf_of (by first | exact s1 | exact s2) ?_))
end
end Go.Proofs.YthbjgdmcnonofaaGreat

/- disc.isTry, power; fix.Less, Over; disc.tries, sum, in the evaluator. -/
namespace Go.Proofs.YthbjgdmcnonofaaGreat
set_option linter.unusedSimpArgs false
set_option linter.unusedVariables false
set_option maxRecDepth 8000
open Go.Ev
theorem fix_Less {N D : Nat} (hl : (lim N).length ≤ 536870912) (hm : (lim D).length ≤ 536870912) : Go.Ev.Fn CX 198 [natV (lim N), natV (lim D)] (natV (lim (N - D))) := by
  have h := nat_SubL hl hm
  refine Go.Ev.Fn.intro (fn := Tryz.f198) (body := (Tryz.f198).body.get!) (by kernel_rfl) (by kernel_rfl) (by kernel_rfl) (fun _ => rfl) (Nat.le_of_ble_eq_true (by kernel_rfl)) ?_; unfold Tryz.f198; simp only [Option.get!_some]
  repeat (first | (simp only [go_sem, Nat.reduceEqDiff, Nat.reduceAdd, Nat.reduceSub, Nat.reduceMul, Nat.reduceLeDiff, Nat.reduceLT, reduceIte, reduceCtorEq, Nat.succ_ne_zero, elemsC, Int.reduceToNat, Nat.reducePow]) | (simp (disch := (first | omega | (simp only [AL, List.length_map]; omega))) only [AR, AL, ifT, ifF, take_all, List.length_cons, List.length_nil, Int.reduceToNat, Int.reducePow, Nat.reducePow]) | (refine wk_intro (by kernel_rfl) ?_) | (refine vf_of (by first | exact h) ?_))
theorem fix_Over {N D : Nat} (hD : D ≠ 0) (hl : (lim N).length ≤ 536870912) (hm : (lim D).length ≤ 536870912) : Go.Ev.Fn CX 171 [natV (lim N), natV (lim D)] (natV (lim (N / D))) := by
  have h := nat_DivL hD hl hm
  refine Go.Ev.Fn.intro (fn := Tryz.f171) (body := (Tryz.f171).body.get!) (by kernel_rfl) (by kernel_rfl) (by kernel_rfl) (fun _ => rfl) (Nat.le_of_ble_eq_true (by kernel_rfl)) ?_; unfold Tryz.f171; simp only [Option.get!_some]
  repeat (first | (simp only [go_sem, Nat.reduceEqDiff, Nat.reduceAdd, Nat.reduceSub, Nat.reduceMul, Nat.reduceLeDiff, Nat.reduceLT, reduceIte, reduceCtorEq, Nat.succ_ne_zero, elemsC, Int.reduceToNat, Nat.reducePow]) | (simp (disch := (first | omega | (simp only [AL, List.length_map]; omega))) only [AR, AL, ifT, ifF, take_all, List.length_cons, List.length_nil, Int.reduceToNat, Int.reducePow, Nat.reducePow]) | (refine wk_intro (by kernel_rfl) ?_) | (refine vf_of (by first | exact h) ?_))
/-- May tries be asked? -/
def tryD (n : Int) (x : Rat) : Bool := decide (0 ≤ n) && (decide (n ≤ 256) && (decide (0 ≤ x) && decide (x ≤ 1)))
theorem disc_isTry {v : SV} {x : Rat} {L : Nat} {n : Int} (hv : RatA v x L) (hL : 1 ≤ L) (h : L ≤ 1048576) : Go.Ev.Fn CX 186 [.int .i64 n, v] (.bool (tryD n x)) := by
  have r0 := rat_Int 0 (by omega)
  have r1 := rat_Int 1 (by omega)
  have c0 := rat_Cmp hv (RatA_rv (int_szR (n := 0) (by omega))) hL (by omega) (by omega)
  have c1 := rat_Cmp hv (RatA_rv (int_szR (n := 1) (by omega))) hL (by omega) (by omega)
  have e0 : decide (cmpR x ((0 : Int) : Rat) ≥ 0) = decide (0 ≤ x) := cmpR_ge
  have e1 : decide (cmpR x ((1 : Int) : Rat) ≤ 0) = decide (x ≤ 1) := cmpR_le
  unfold tryD
  obtain ⟨s, y, d, rfl, -⟩ := hv
  refine Go.Ev.Fn.intro (fn := Tryz.f186) (body := (Tryz.f186).body.get!) (by kernel_rfl) (by kernel_rfl) (by kernel_rfl) (fun _ => rfl) (Nat.le_of_ble_eq_true (by kernel_rfl)) ?_; unfold Tryz.f186; simp only [Option.get!_some]
  by_cases h1 : 0 ≤ n
  · rw [decide_eq_true h1, Bool.true_and]
    by_cases h2 : n ≤ 256
    · rw [decide_eq_true h2, Bool.true_and]
      generalize decide (0 ≤ x) = b at *
      cases b
      · rw [Bool.false_and]
        repeat (first | (simp only [go_sem, Nat.reduceEqDiff, Nat.reduceAdd, Nat.reduceSub, Nat.reduceMul, Nat.reduceLeDiff, Nat.reduceLT, reduceIte, reduceCtorEq, Nat.succ_ne_zero, elemsC, Int.reduceToNat, Nat.reducePow, e0]) | (simp (disch := (first | omega | (simp only [AL, List.length_map]; omega))) only [AR, AL, ifT, ifF, take_all, List.length_cons, List.length_nil, Int.reduceToNat, Int.reducePow, Nat.reducePow, e0]) | (refine wk_intro (by kernel_rfl) ?_) | (refine vp_draw (id := 1) (l := []) (by kernel_rfl) ?_) | (refine vf_of (by first | exact r0 | exact c0) ?_))
      · rw [Bool.true_and]
        repeat (first | (simp only [go_sem, Nat.reduceEqDiff, Nat.reduceAdd, Nat.reduceSub, Nat.reduceMul, Nat.reduceLeDiff, Nat.reduceLT, reduceIte, reduceCtorEq, Nat.succ_ne_zero, elemsC, Int.reduceToNat, Nat.reducePow, e0, e1]) | (simp (disch := (first | omega | (simp only [AL, List.length_map]; omega))) only [AR, AL, ifT, ifF, take_all, List.length_cons, List.length_nil, Int.reduceToNat, Int.reducePow, Nat.reducePow, e0, e1]) | (refine wk_intro (by kernel_rfl) ?_) | (refine vp_draw (id := 1) (l := []) (by kernel_rfl) ?_) | (refine vf_of (by first | exact r0 | exact c0 | exact r1 | exact c1) ?_))
    · rw [decide_eq_false h2, Bool.false_and]
      repeat (first | (simp only [go_sem, Nat.reduceEqDiff, Nat.reduceAdd, Nat.reduceSub, Nat.reduceMul, Nat.reduceLeDiff, Nat.reduceLT, reduceIte, reduceCtorEq, Nat.succ_ne_zero, elemsC, Int.reduceToNat, Nat.reducePow]) | (simp (disch := (first | omega | (simp only [AL, List.length_map]; omega))) only [AR, AL, ifT, ifF, take_all, List.length_cons, List.length_nil, Int.reduceToNat, Int.reducePow, Nat.reducePow]) | (refine wk_intro (by kernel_rfl) ?_) | (refine vp_draw (id := 1) (l := []) (by kernel_rfl) ?_))
  · rw [decide_eq_false h1, Bool.false_and]
    repeat (first | (simp only [go_sem, Nat.reduceEqDiff, Nat.reduceAdd, Nat.reduceSub, Nat.reduceMul, Nat.reduceLeDiff, Nat.reduceLT, reduceIte, reduceCtorEq, Nat.succ_ne_zero, elemsC, Int.reduceToNat, Nat.reducePow]) | (simp (disch := (first | omega | (simp only [AL, List.length_map]; omega))) only [AR, AL, ifT, ifF, take_all, List.length_cons, List.length_nil, Int.reduceToNat, Int.reducePow, Nat.reducePow]) | (refine wk_intro (by kernel_rfl) ?_) | (refine vp_draw (id := 1) (l := []) (by kernel_rfl) ?_))
theorem pow_lim_len (x n : Nat) : (lim (x ^ n)).length ≤ (lim x).length * n + 1 := by
  induction n with
  | zero => rw [Nat.pow_zero]; have := lim_len_one (a := 1) (by decide); omega
  | succ n ih =>
    have := lim_len_mul (a := x ^ n) (b := x)
    rw [Nat.pow_succ, Nat.mul_succ]
    omega
theorem disc_power (x : Nat) (n : Nat) (hn : n ≤ 256) (hx : (lim x).length ≤ 1000) : Go.Ev.Fn CX 211 [natV (lim x), .int .i64 (n : Int)] (natV (lim (x ^ n))) := by
  have o1 := nat_Of 1 (by omega)
  refine Go.Ev.Fn.intro (fn := Tryz.f211) (body := (Tryz.f211).body.get!) (by kernel_rfl) (by kernel_rfl) (by kernel_rfl) (fun _ => rfl) (Nat.le_of_ble_eq_true (by kernel_rfl)) ?_; unfold Tryz.f211; simp only [Option.get!_some]
  repeat (first | (simp only [go_sem, Nat.reduceEqDiff, Nat.reduceAdd, Nat.reduceSub, Nat.reduceMul, Nat.reduceLeDiff, Nat.reduceLT, reduceIte, reduceCtorEq, Nat.succ_ne_zero, elemsC, Int.reduceToNat, Nat.reducePow]) | (simp (disch := (first | omega | (simp only [AL, List.length_map]; omega))) only [AR, AL, ifT, ifF, take_all, List.length_cons, List.length_nil, Int.reduceToNat, Int.reducePow, Nat.reducePow]) | (refine wk_intro (by kernel_rfl) ?_) | (refine vf_of (by first | exact o1) ?_))
  refine vp_loop_inv (fun s => ∃ e A N : Nat, s.tmp 0 = .sv (natV (lim (x ^ e))) ∧ s.tmp 1 = .sv (.int .i64 (N : Int)) ∧ s.tmp 5 = .sv (natV (lim (x ^ A))) ∧ A + e * N = n ∧ (N = 0 ∨ e ≤ n) ∧ e ≤ 512 ∧ 1 ≤ e)
    (fun s => match s.tmp 1 with | .sv (.int _ n) => n.toNat | _ => 0) ⟨1, 0, n, by rw [Nat.pow_one]; rfl, rfl, by rw [Nat.pow_zero]; rfl, by omega, by omega, by omega, by omega⟩ ?_
  rintro s ⟨e, A, N, i0, i1, i5, hs, he, he2, he1⟩
  rcases Nat.eq_zero_or_pos N with rfl | h0
  · rw [show A = n by omega] at i5
    repeat (first | (simp only [go_sem, Nat.reduceEqDiff, Nat.reduceAdd, Nat.reduceSub, Nat.reduceMul, Nat.reduceLeDiff, Nat.reduceLT, reduceIte, reduceCtorEq, Nat.succ_ne_zero, elemsC, Int.reduceToNat, Nat.reducePow, i0, i1, i5]) | (simp (disch := (first | omega | (simp only [AL, List.length_map]; omega))) only [AR, AL, ifT, ifF, take_all, List.length_cons, List.length_nil, Int.reduceToNat, Int.reducePow, Nat.reducePow, i0, i1, i5]) | (refine wk_intro (by kernel_rfl) ?_))
  · have heN : e ≤ n := by omega
    have hA : A ≤ n := by omega
    have hNe : 1 * N ≤ e * N := Nat.mul_le_mul_right _ he1
    have l1 := pow_lim_len x e
    have l2 := pow_lim_len x A
    have k1 : (lim x).length * e ≤ 1000 * 256 := Nat.mul_le_mul hx (by omega)
    have k2 : (lim x).length * A ≤ 1000 * 256 := Nat.mul_le_mul hx (by omega)
    have m1 := nat_MulL (N := x ^ A) (D := x ^ e) (by omega) (by omega)
    have m2 := nat_MulL (N := x ^ e) (D := x ^ e) (by omega) (by omega)
    rw [← Nat.pow_add] at m1 m2
    have ha := and_one64 (a := N) (by omega)
    have hN2 : N = 2 * (N / 2) + N % 2 := by omega
    have hs2 : e * N = (e + e) * (N / 2) + e * (N % 2) := by
      conv => lhs; rw [hN2]
      rw [Nat.mul_add, Nat.add_mul, ← Nat.mul_assoc, Nat.mul_comm e 2, Nat.two_mul, Nat.add_mul]
    have hshr : (N : Int).fdiv 2 = ((N / 2 : Nat) : Int) := fdiv_nat N 2
    have hbig : N / 2 = 0 ∨ e + e ≤ n := by
      rcases Nat.eq_zero_or_pos (N / 2) with h | h
      · exact .inl h
      · right
        have : (e + e) * 1 ≤ (e + e) * (N / 2) := Nat.mul_le_mul_left _ h
        omega
    rcases Nat.mod_two_eq_zero_or_one N with hp | hp
    · rw [hp] at ha hs2
      clear hN2
      repeat (first | (simp only [go_sem, Nat.reduceEqDiff, Nat.reduceAdd, Nat.reduceSub, Nat.reduceMul, Nat.reduceLeDiff, Nat.reduceLT, reduceIte, reduceCtorEq, Nat.succ_ne_zero, elemsC, Int.reduceToNat, Nat.reducePow, i0, i1, i5, ha, hshr]) | (simp (disch := (first | omega | (simp only [AL, List.length_map]; omega))) only [AR, AL, ifT, ifF, take_all, List.length_cons, List.length_nil, Int.reduceToNat, Int.reducePow, Nat.reducePow, i0, i1, i5, ha, hshr]) | (refine wk_intro (by kernel_rfl) ?_) | (refine vf_of (by first | exact m2) ?_))
      exact ⟨⟨e + e, A, N / 2, rfl, rfl, rfl, by omega, by omega, by omega, by omega⟩, by omega⟩
    · rw [hp] at ha hs2
      clear hN2
      repeat (first | (simp only [go_sem, Nat.reduceEqDiff, Nat.reduceAdd, Nat.reduceSub, Nat.reduceMul, Nat.reduceLeDiff, Nat.reduceLT, reduceIte, reduceCtorEq, Nat.succ_ne_zero, elemsC, Int.reduceToNat, Nat.reducePow, i0, i1, i5, ha, hshr]) | (simp (disch := (first | omega | (simp only [AL, List.length_map]; omega))) only [AR, AL, ifT, ifF, take_all, List.length_cons, List.length_nil, Int.reduceToNat, Int.reducePow, Nat.reducePow, i0, i1, i5, ha, hshr]) | (refine wk_intro (by kernel_rfl) ?_) | (refine vf_of (by first | exact m1 | exact m2) ?_))
      exact ⟨⟨e + e, A + e, N / 2, rfl, rfl, rfl, by omega, by omega, by omega, by omega⟩, by omega⟩
end Go.Proofs.YthbjgdmcnonofaaGreat

/- disc.tries, sum, BinomCdf, in the evaluator. -/
namespace Go.Proofs.YthbjgdmcnonofaaGreat
set_option linter.unusedSimpArgs false
set_option linter.unusedVariables false
set_option maxRecDepth 8000
open Go.Ev
/-- A row of numbers. -/
abbrev rowsC (g : Nat → Nat) (i : Nat) : List SV := (List.range i).map fun j => natV (lim (g j))
theorem rows_len (g : Nat → Nat) (i : Nat) : (rowsC g i).length = i := by simp [rowsC]
theorem rows_at (g : Nat → Nat) {i j : Nat} (h : j < i) : ((rowsC g i).drop j).head? = some (natV (lim (g j))) := by
  rw [List.head?_drop]
  simp [rowsC, h]
theorem rows_snoc (g : Nat → Nat) (i : Nat) : rowsC g i ++ [natV (lim (g i))] = rowsC g (i + 1) := by simp [rowsC, List.range_succ]
theorem rows_one (g : Nat → Nat) (i : Nat) : (rowsC g i).all SV.one = true := by
  simp [rowsC, List.all_map, SV.one]
theorem cc_lim {m k : Nat} (h : m + k ≤ 1048576) : (lim (cc m k)).length ≤ k + 1 :=
  Nat.le_trans (lim_len_mono cc_le) (prodN_len fun i hi => by omega)
theorem disc_tries {v : SV} {x : Rat} {L : Nat} {n k : Nat} (hv : RatA v x L) (hL : 1 ≤ L) (hL2 : L ≤ 100) (hn : n ≤ 256) (hk : k ≤ n) (hx : x.num.natAbs ≤ x.den) :
    Go.Ev.Fn CX 187 [.int .i64 (n : Int), .int .i64 (k : Int), v] (.sl (k + 1) (rowsC (termN x.num.natAbs (x.den - x.num.natAbs) n) (k + 1))) := by
  have hN := rat_Norm hv (by omega)
  obtain ⟨z1, z2⟩ := szR_of hv hL
  have o1 := nat_Of 1 (by omega)
  have l1 := lim_len1
  have hf := lim_len_mono (Nat.sub_le x.den x.num.natAbs)
  obtain ⟨s, y, d, rfl, -⟩ := hv
  generalize hp : x.num.natAbs = p at *
  generalize hd : x.den = D at *
  have hLess := fix_Less (N := D) (D := p) (by omega) (by omega)
  generalize hff : D - p = f at *
  refine Go.Ev.Fn.intro (fn := Tryz.f187) (body := (Tryz.f187).body.get!) (by kernel_rfl) (by kernel_rfl) (by kernel_rfl) (fun _ => rfl) (Nat.le_of_ble_eq_true (by kernel_rfl)) ?_; unfold Tryz.f187; simp only [Option.get!_some]
  repeat (first | (simp only [go_sem, Nat.reduceEqDiff, Nat.reduceAdd, Nat.reduceSub, Nat.reduceMul, Nat.reduceLeDiff, Nat.reduceLT, reduceIte, reduceCtorEq, Nat.succ_ne_zero, elemsC, Int.reduceToNat, Nat.reducePow, hp, hd]) | (simp (disch := (first | omega | (simp only [AL, List.length_map]; omega))) only [AR, AL, ifT, ifF, take_all, List.length_cons, List.length_nil, Int.reduceToNat, Int.reducePow, Nat.reducePow, hp, hd]) | (refine wk_intro (by kernel_rfl) ?_) | (refine vf_of (by first | exact hN | exact hLess | exact o1) ?_))
  have lfp : ∀ i, i ≤ n → (lim (f ^ i)).length ≤ 25601 := by
    intro i hi
    have h1 := pow_lim_len f i
    have h2 : (lim f).length * i ≤ 100 * 256 := Nat.mul_le_mul (by omega) (by omega)
    omega
  have lpp : ∀ i, i ≤ n → (lim (p ^ i)).length ≤ 25601 := by
    intro i hi
    have h1 := pow_lim_len p i
    have h2 : (lim p).length * i ≤ 100 * 256 := Nat.mul_le_mul (by omega) (by omega)
    omega
  have lw : ∀ j, j ≤ n → (lim (cc (n - j) j * p ^ j)).length ≤ 26000 := by
    intro j hj
    have h1 := lim_len_mul (a := cc (n - j) j) (b := p ^ j)
    have h2 := cc_lim (m := n - j) (k := j) (by omega)
    have h3 := lpp j hj
    omega
  refine vp_loop_inv (fun s' => s'.tmp 0 = .sv (.int .i64 (n : Int)) ∧ s'.tmp 1 = .sv (.int .i64 (k : Int)) ∧ s'.tmp 7 = .sv (natV (lim p)) ∧ s'.tmp 8 = .sv (natV (lim f)) ∧ s'.gen 54 = 0 ∧
      ∃ i : Nat, 1 ≤ i ∧ i ≤ n + 1 ∧ s'.tmp 9 = .ref 22 0 1 0 i ∧ s'.obj 22 0 = some (rowsC (fun j => f ^ j) i))
    (fun s => match s.tmp 9 with | .ref _ _ _ _ i => n + 1 - i | _ => 0) ⟨rfl, rfl, rfl, rfl, rfl, 1, by omega, by omega, rfl, rfl⟩ ?_
  rintro s' ⟨i0, i1, i7, i8, ig, i, hi1, hi2, i9, iO⟩
  have hlen := rows_len (fun j => f ^ j) i
  by_cases hend : i = n + 1
  · subst hend
    repeat (first | (simp only [go_sem, Nat.reduceEqDiff, Nat.reduceAdd, Nat.reduceSub, Nat.reduceMul, Nat.reduceLeDiff, Nat.reduceLT, reduceIte, reduceCtorEq, Nat.succ_ne_zero, elemsC, Int.reduceToNat, Nat.reducePow, i0, i1, i7, i8, i9, iO]) | (simp (disch := (first | omega | (simp only [AL, List.length_map]; omega))) only [AR, AL, ifT, ifF, take_all, List.length_cons, List.length_nil, Int.reduceToNat, Int.reducePow, Nat.reducePow, i0, i1, i7, i8, i9, iO]) | (refine wk_intro (by kernel_rfl) ?_) | (refine vf_of (by first | exact o1) ?_))
    refine vp_loop_inv (fun s2 => s2.tmp 0 = .sv (.int .i64 (n : Int)) ∧ s2.tmp 1 = .sv (.int .i64 (k : Int)) ∧ s2.tmp 7 = .sv (natV (lim p)) ∧ s2.tmp 9 = .ref 22 0 1 0 (n + 1) ∧ s2.obj 22 0 = some (rowsC (fun j => f ^ j) (n + 1)) ∧
        ∃ j W : Nat, s2.tmp 12 = .sv (.int .i64 (j : Int)) ∧ s2.tmp 10 = .sv (natV (lim W)) ∧ (j ≤ n → W = cc (n - j) j * p ^ j) ∧ j ≤ k + 1 ∧ (lim W).length ≤ 60000 ∧
          ((j = 0 ∧ s2.tmp 11 = .nil ∧ s2.gen 54 = 0) ∨ (0 < j ∧ s2.tmp 11 = .ref 54 0 1 0 j ∧ s2.obj 54 0 = some (rowsC (termN p f n) j))))
      (fun s => match s.tmp 12 with | .sv (.int _ i) => k + 1 - i.toNat | _ => 0) ⟨i0, i1, i7, i9, iO, 0, 1, rfl, rfl, fun _ => by rw [cc_zero, Nat.pow_zero], by omega, by omega, .inl ⟨rfl, rfl, ig⟩⟩ ?_
    rintro s2 ⟨j0, j1, j7, j9, jO, j, W, j12, j10, hW, hj, hlW, hl⟩
    by_cases hend2 : j = k + 1
    · subst hend2
      rcases hl with ⟨h0, _⟩ | ⟨_, j11, jL⟩
      · omega
      · repeat (first | (simp only [go_sem, Nat.reduceEqDiff, Nat.reduceAdd, Nat.reduceSub, Nat.reduceMul, Nat.reduceLeDiff, Nat.reduceLT, reduceIte, reduceCtorEq, Nat.succ_ne_zero, elemsC, Int.reduceToNat, Nat.reducePow, j0, j1, j7, j9, jO, j12, j10, j11, jL]) | (simp (disch := (first | omega | (simp only [AL, List.length_map]; omega))) only [AR, AL, ifT, ifF, take_all, List.length_cons, List.length_nil, Int.reduceToNat, Int.reducePow, Nat.reducePow, j0, j1, j7, j9, jO, j12, j10, j11, jL]) | (refine wk_intro (by kernel_rfl) ?_))
        refine ro_ref (cs := rowsC (termN p f n) (k + 1)) (by decide) ?_ ?_
        · simp only [go_sem, Nat.reduceEqDiff, Nat.reduceAdd, Nat.reduceSub, Nat.reduceMul, Nat.reduceLeDiff, Nat.reduceLT, reduceIte, reduceCtorEq, Nat.succ_ne_zero, elemsC, Int.reduceToNat, Nat.reducePow, j11, jL]
        · rw [List.drop_zero, Nat.mul_one, List.take_of_length_le (Nat.le_of_eq (rows_len _ _))]
    · have hjn : j ≤ n := by omega
      have hWj := hW hjn
      have hat := rows_at (fun j => f ^ j) (i := n + 1) (j := n - j) (by omega)
      have hle2 := rows_len (fun j => f ^ j) (n + 1)
      have hsn := rows_snoc (termN p f n) j
      have hrl := rows_len (termN p f n) j
      have hl2 := lfp (n - j) (by omega)
      have hM1 := nat_MulL (N := W) (D := f ^ (n - j)) (by omega) (by omega)
      have hterm : W * f ^ (n - j) = termN p f n j := by rw [hWj]; rfl
      rw [hterm] at hM1
      have hM2 := nat_MulL (N := W) (D := p) (by omega) (by omega)
      have g2 := lim_len_mul (a := W) (b := p)
      have oN := nat_Of (n - j) (by omega)
      have lN := lim_len_one (a := n - j) (by omega)
      have hM3 := nat_MulL (N := W * p) (D := n - j) (by omega) (by omega)
      have g3 := lim_len_mul (a := W * p) (b := n - j)
      have oJ := nat_Of (j + 1) (by omega)
      have lJ := lim_len_one (a := j + 1) (by omega)
      have hO := fix_Over (N := W * p * (n - j)) (D := j + 1) (by omega) (by omega) (by omega)
      have hnew : j + 1 ≤ n → W * p * (n - j) / (j + 1) = cc (n - (j + 1)) (j + 1) * p ^ (j + 1) := fun h => by rw [hWj, ways_step (by omega)]
      have hWl : (lim (W * p * (n - j) / (j + 1))).length ≤ 60000 := by
        rcases Nat.lt_or_ge j n with h | h
        · rw [hnew h]
          have := lw (j + 1) h
          omega
        · rw [show n - j = 0 by omega, Nat.mul_zero, Nat.zero_div, lim_zero]
          simp
      generalize W * p * (n - j) / (j + 1) = W2 at *
      have e3 : ((n - j : Nat) : Int) % 18446744073709551616 = ((n - j : Nat) : Int) := by omega
      rcases hl with ⟨h0, j11, jg⟩ | ⟨hj0, j11, jL⟩
      · subst h0
        simp only [Nat.sub_zero] at hat hM1 oN hM3 hO
        repeat (first | (simp only [go_sem, Nat.reduceEqDiff, Nat.reduceAdd, Nat.reduceSub, Nat.reduceMul, Nat.reduceLeDiff, Nat.reduceLT, reduceIte, reduceCtorEq, Nat.succ_ne_zero, elemsC, Int.reduceToNat, Nat.reducePow, j0, j1, j7, j9, jO, j12, j10, j11, jg, N0, hat, hsn, hrl]) | (simp (disch := (first | omega | (simp only [AL, List.length_map]; omega))) only [AR, AL, ifT, ifF, take_all, List.length_cons, List.length_nil, Int.reduceToNat, Int.reducePow, Nat.reducePow, j0, j1, j7, j9, jO, j12, j10, j11, jg, N0, hat, hsn, hrl]) | (refine wk_intro (by kernel_rfl) ?_) | (refine vf_of (by first | exact hM1 | exact hM2 | exact oN | exact hM3 | exact oJ | exact hO) ?_))
        exact ⟨⟨1, W2, rfl, rfl, hnew, by omega, hWl, .inr ⟨by omega, rfl, rfl⟩⟩, by omega⟩
      · repeat (first | (simp only [go_sem, Nat.reduceEqDiff, Nat.reduceAdd, Nat.reduceSub, Nat.reduceMul, Nat.reduceLeDiff, Nat.reduceLT, reduceIte, reduceCtorEq, Nat.succ_ne_zero, elemsC, Int.reduceToNat, Nat.reducePow, j0, j1, j7, j9, jO, j12, j10, j11, jL, N0, hat]) | (simp (disch := (first | omega | (simp only [AL, List.length_map]; omega))) only [AR, AL, ifT, ifF, take_all, List.length_cons, List.length_nil, Int.reduceToNat, Int.reducePow, Nat.reducePow, j0, j1, j7, j9, jO, j12, j10, j11, jL, N0, hat]) | (refine wk_intro (by kernel_rfl) ?_))
        repeat (first | (simp only [go_sem, Nat.reduceEqDiff, Nat.reduceAdd, Nat.reduceSub, Nat.reduceMul, Nat.reduceLeDiff, Nat.reduceLT, reduceIte, reduceCtorEq, Nat.succ_ne_zero, elemsC, Int.reduceToNat, Nat.reducePow, j0, j1, j7, j9, jO, j12, j10, j11, jL, N0, hat, hsn, hrl]) | (simp (disch := (first | omega | (simp only [AL, List.length_map]; omega))) only [AR, AL, ifT, ifF, take_all, List.length_cons, List.length_nil, Int.reduceToNat, Int.reducePow, Nat.reducePow, j0, j1, j7, j9, jO, j12, j10, j11, jL, N0, hat, hsn, hrl]) | (refine wk_intro (by kernel_rfl) ?_) | (refine vf_of (by first | exact hM1 | exact hM2 | exact oN | exact hM3 | exact oJ | exact hO) ?_))
        exact ⟨⟨j + 1, W2, rfl, rfl, hnew, by omega, hWl, .inr ⟨by omega, rfl, rfl⟩⟩, by omega⟩
  · have hat := rows_at (fun j => f ^ j) (i := i) (j := i - 1) (by omega)
    have hsn := rows_snoc (fun j => f ^ j) i
    have hl1 := lfp (i - 1) (by omega)
    have hM := nat_MulL (N := f ^ (i - 1)) (D := f) (by omega) (by omega)
    rw [← Nat.pow_succ, show (i - 1).succ = i by omega] at hM
    repeat (first | (simp only [go_sem, Nat.reduceEqDiff, Nat.reduceAdd, Nat.reduceSub, Nat.reduceMul, Nat.reduceLeDiff, Nat.reduceLT, reduceIte, reduceCtorEq, Nat.succ_ne_zero, elemsC, Int.reduceToNat, Nat.reducePow, i0, i1, i7, i8, i9, iO, N0, hat, hsn, hlen]) | (simp (disch := (first | omega | (simp only [AL, List.length_map]; omega))) only [AR, AL, ifT, ifF, take_all, List.length_cons, List.length_nil, Int.reduceToNat, Int.reducePow, Nat.reducePow, i0, i1, i7, i8, i9, iO, N0, hat, hsn, hlen]) | (refine wk_intro (by kernel_rfl) ?_) | (refine vf_of (by first | exact hM) ?_))
    exact ⟨⟨ig, i + 1, by omega, by omega, rfl, rfl⟩, by omega⟩
theorem sum_len {p f n : Nat} (h : ∀ j, (lim (termN p f n j)).length ≤ 90000) : ∀ k, (lim (sumN p f n k)).length ≤ 90000 + k := by
  intro k
  induction k with
  | zero => rw [show sumN p f n 0 = 0 from rfl, lim_zero]; simp
  | succ k ih =>
    have := lim_len_add2 (a := sumN p f n k) (b := termN p f n k) ih (Nat.le_trans (h k) (by omega))
    exact this
theorem term_len {p f n : Nat} (hn : n ≤ 256) (hp : (lim p).length ≤ 100) (hf : (lim f).length ≤ 100) (j : Nat) (hj : j ≤ n) : (lim (termN p f n j)).length ≤ 90000 := by
  have h1 := pow_lim_len p j
  have h2 : (lim p).length * j ≤ 100 * 256 := Nat.mul_le_mul hp (by omega)
  have h3 := pow_lim_len f (n - j)
  have h4 : (lim f).length * (n - j) ≤ 100 * 256 := Nat.mul_le_mul hf (by omega)
  have h5 := cc_lim (m := n - j) (k := j) (by omega)
  have h6 := lim_len_mul (a := cc (n - j) j) (b := p ^ j)
  have h7 := lim_len_mul (a := cc (n - j) j * p ^ j) (b := f ^ (n - j))
  unfold termN
  omega
theorem disc_sum {v : SV} {x : Rat} {L : Nat} {n k : Nat} {g : Nat → Nat} {S : Nat → Nat} (hv : RatA v x L) (hL : 1 ≤ L) (hL2 : L ≤ 100) (hn : n ≤ 256) (hk : k ≤ 1000) (hS0 : S 0 = 0) (hS : ∀ j, S (j + 1) = S j + g j) (hg : ∀ j, j < k → (lim (g j)).length ≤ 90000) (hSl : ∀ j, j ≤ k → (lim (S j)).length ≤ 100000) :
    Go.Ev.Fn CX 188 [.int .i64 (n : Int), v, .sl k (rowsC g k)] (rv (mkRat (S k : Nat) (x.den ^ n))) := by
  have hN := rat_Norm hv (by omega)
  obtain ⟨z1, z2⟩ := szR_of hv hL
  obtain ⟨s, y, d, rfl, -⟩ := hv
  have hpw := disc_power x.den n hn (by omega)
  have hpl := pow_lim_len x.den n
  have hpl2 : (lim x.den).length * n ≤ 100 * 256 := Nat.mul_le_mul (by omega) hn
  have hOf := rat_OfL (s := false) (n := S k) (d := x.den ^ n) (by have := hSl k (Nat.le_refl k); omega) (by omega)
  rw [show sgn false (S k) = ((S k : Nat) : Int) from rfl] at hOf
  refine Go.Ev.Fn.intro (fn := Tryz.f188) (body := (Tryz.f188).body.get!) (by kernel_rfl) (by kernel_rfl) (by kernel_rfl) (fun _ => rfl) (Nat.le_of_ble_eq_true (by kernel_rfl)) ?_; unfold Tryz.f188; simp only [Option.get!_some]
  repeat (first | (simp only [go_sem, Nat.reduceEqDiff, Nat.reduceAdd, Nat.reduceSub, Nat.reduceMul, Nat.reduceLeDiff, Nat.reduceLT, reduceIte, reduceCtorEq, Nat.succ_ne_zero, elemsC, Int.reduceToNat, Nat.reducePow]) | (simp (disch := (first | omega | (simp only [AL, List.length_map]; omega))) only [AR, AL, ifT, ifF, take_all, List.length_cons, List.length_nil, Int.reduceToNat, Int.reducePow, Nat.reducePow]) | (refine wk_intro (by kernel_rfl) ?_))
  refine vp_loop_inv (fun s' => s'.tmp 0 = .sv (.int .i64 (n : Int)) ∧ s'.tmp 4 = .ptr 4 0 0 ∧ s'.obj 4 0 = some [.bool s, natV y, natV d] ∧ s'.tmp 6 = .ptr 6 0 0 ∧ s'.obj 6 0 = some [.bool false, .sl 0 [], .sl 0 []] ∧ s'.tmp 10 = .sv (.sl k (rowsC g k)) ∧ s'.tmp 11 = .sv (.int .i64 (k : Int)) ∧
      ∃ i : Nat, s'.tmp 12 = .sv (.int .i64 (i : Int)) ∧ i ≤ k ∧ ((i = 0 ∧ s'.tmp 7 = .nil) ∨ s'.tmp 7 = .sv (natV (lim (S i)))))
    (fun s => match s.tmp 12 with | .sv (.int _ i) => k - i.toNat | _ => 0) ⟨rfl, rfl, rfl, rfl, rfl, rfl, rfl, 0, rfl, by omega, .inl ⟨rfl, rfl⟩⟩ ?_
  rintro s' ⟨i0, i4, iP, i6, iR, i10, i11, i, i12, hi, h7⟩
  by_cases hend : i = k
  · subst hend
    rcases h7 with ⟨h0, i7⟩ | i7
    · rw [h0, hS0, lim_zero] at hOf
      rw [h0, hS0]
      repeat (first | (simp only [go_sem, Nat.reduceEqDiff, Nat.reduceAdd, Nat.reduceSub, Nat.reduceMul, Nat.reduceLeDiff, Nat.reduceLT, reduceIte, reduceCtorEq, Nat.succ_ne_zero, elemsC, Int.reduceToNat, Nat.reducePow, i0, i4, iP, i6, iR, i10, i11, i12, i7]) | (simp (disch := (first | omega | (simp only [AL, List.length_map]; omega))) only [AR, AL, ifT, ifF, take_all, List.length_cons, List.length_nil, Int.reduceToNat, Int.reducePow, Nat.reducePow, i0, i4, iP, i6, iR, i10, i11, i12, i7]) | (refine wk_intro (by kernel_rfl) ?_) | (refine vf_of (by first | exact hN | exact hpw | exact hOf) ?_))
    · repeat (first | (simp only [go_sem, Nat.reduceEqDiff, Nat.reduceAdd, Nat.reduceSub, Nat.reduceMul, Nat.reduceLeDiff, Nat.reduceLT, reduceIte, reduceCtorEq, Nat.succ_ne_zero, elemsC, Int.reduceToNat, Nat.reducePow, i0, i4, iP, i6, iR, i10, i11, i12, i7]) | (simp (disch := (first | omega | (simp only [AL, List.length_map]; omega))) only [AR, AL, ifT, ifF, take_all, List.length_cons, List.length_nil, Int.reduceToNat, Int.reducePow, Nat.reducePow, i0, i4, iP, i6, iR, i10, i11, i12, i7]) | (refine wk_intro (by kernel_rfl) ?_))
      repeat (first | (simp only [go_sem, Nat.reduceEqDiff, Nat.reduceAdd, Nat.reduceSub, Nat.reduceMul, Nat.reduceLeDiff, Nat.reduceLT, reduceIte, reduceCtorEq, Nat.succ_ne_zero, elemsC, Int.reduceToNat, Nat.reducePow, i0, i4, iP, i6, iR, i7]) | (simp (disch := (first | omega | (simp only [AL, List.length_map]; omega))) only [AR, AL, ifT, ifF, take_all, List.length_cons, List.length_nil, Int.reduceToNat, Int.reducePow, Nat.reducePow, i0, i4, iP, i6, iR, i7]) | (refine wk_intro (by kernel_rfl) ?_) | (refine vf_of (by first | exact hN | exact hpw | exact hOf) ?_))
  · have hat := rows_at g (i := k) (j := i) (by omega)
    have hrl := rows_len g k
    have hl1 := hg i (by omega)
    have hl2 := hSl i (by omega)
    have hA := nat_AddL (N := S i) (D := g i) (by omega) (by omega)
    rw [← hS] at hA
    rcases h7 with ⟨h0, i7⟩ | i7
    · subst h0
      rw [hS0, lim_zero] at hA
      rw [List.drop_zero] at hat
      repeat (first | (simp only [go_sem, Nat.reduceEqDiff, Nat.reduceAdd, Nat.reduceSub, Nat.reduceMul, Nat.reduceLeDiff, Nat.reduceLT, reduceIte, reduceCtorEq, Nat.succ_ne_zero, elemsC, Int.reduceToNat, Nat.reducePow, i0, i4, iP, i6, iR, i10, i11, i12, i7, hat, hrl]) | (simp (disch := (first | omega | (simp only [AL, List.length_map]; omega))) only [AR, AL, ifT, ifF, take_all, List.length_cons, List.length_nil, Int.reduceToNat, Int.reducePow, Nat.reducePow, i0, i4, iP, i6, iR, i10, i11, i12, i7, hat, hrl]) | (refine wk_intro (by kernel_rfl) ?_) | (refine vf_of (by first | exact hA) ?_))
      exact ⟨⟨1, rfl, by omega, .inr rfl⟩, by omega⟩
    · repeat (first | (simp only [go_sem, Nat.reduceEqDiff, Nat.reduceAdd, Nat.reduceSub, Nat.reduceMul, Nat.reduceLeDiff, Nat.reduceLT, reduceIte, reduceCtorEq, Nat.succ_ne_zero, elemsC, Int.reduceToNat, Nat.reducePow, i0, i4, iP, i6, iR, i10, i11, i12, i7, hat, hrl]) | (simp (disch := (first | omega | (simp only [AL, List.length_map]; omega))) only [AR, AL, ifT, ifF, take_all, List.length_cons, List.length_nil, Int.reduceToNat, Int.reducePow, Nat.reducePow, i0, i4, iP, i6, iR, i10, i11, i12, i7, hat, hrl]) | (refine wk_intro (by kernel_rfl) ?_))
      refine vf_of (hA) ?_; repeat (first | (simp only [go_sem, Nat.reduceEqDiff, Nat.reduceAdd, Nat.reduceSub, Nat.reduceMul, Nat.reduceLeDiff, Nat.reduceLT, reduceIte, reduceCtorEq, Nat.succ_ne_zero, elemsC, Int.reduceToNat, Nat.reducePow, i0, i4, iP, i6, iR, i10, i11, i12, i7, hat, hrl]) | (simp (disch := (first | omega | (simp only [AL, List.length_map]; omega))) only [AR, AL, ifT, ifF, take_all, List.length_cons, List.length_nil, Int.reduceToNat, Int.reducePow, Nat.reducePow, i0, i4, iP, i6, iR, i10, i11, i12, i7, hat, hrl]) | (refine wk_intro (by kernel_rfl) ?_))
      exact ⟨⟨i + 1, rfl, by omega, .inr rfl⟩, by omega⟩
theorem disc_BinomCdf {v : SV} {x : Rat} {L : Nat} {n : Nat} {k : Int} (hv : RatA v x L) (hL : 1 ≤ L) (hL2 : L ≤ 100) (hn : n ≤ 256) (hx0 : 0 ≤ x) (hx1 : x ≤ 1) (hk : -9223372036854775808 ≤ k ∧ k < 9223372036854775808) :
    Go.Ev.Fn CX 219 [.int .i64 (n : Int), .int .i64 k, v] (.tup [rv (cdfB n k x), .bool true]) := by
  have hT := disc_isTry (n := (n : Int)) hv hL (by omega)
  have ht : tryD (n : Int) x = true := by
    unfold tryD
    rw [decide_eq_true (show (0 : Int) ≤ (n : Int) by omega), decide_eq_true (show (n : Int) ≤ 256 by omega), decide_eq_true hx0, decide_eq_true hx1]
    rfl
  rw [ht] at hT
  have r0 := rat_Int 0 (by omega)
  have r1 := rat_Int 1 (by omega)
  obtain ⟨z1, z2⟩ := szR_of hv hL
  obtain ⟨hle, -⟩ := unit_num hx0 hx1
  have hvv := hv
  obtain ⟨s, y, d, rfl, -⟩ := hv
  refine Go.Ev.Fn.intro (fn := Tryz.f219) (body := (Tryz.f219).body.get!) (by kernel_rfl) (by kernel_rfl) (by kernel_rfl) (fun _ => rfl) (Nat.le_of_ble_eq_true (by kernel_rfl)) ?_; unfold Tryz.f219; simp only [Option.get!_some]
  by_cases h1 : k < 0
  · rw [show cdfB n k x = ((0 : Int) : Rat) from if_pos h1]
    repeat (first | (simp only [go_sem, Nat.reduceEqDiff, Nat.reduceAdd, Nat.reduceSub, Nat.reduceMul, Nat.reduceLeDiff, Nat.reduceLT, reduceIte, reduceCtorEq, Nat.succ_ne_zero, elemsC, Int.reduceToNat, Nat.reducePow, Bool.not_true]) | (simp (disch := (first | omega | (simp only [AL, List.length_map]; omega))) only [AR, AL, ifT, ifF, take_all, List.length_cons, List.length_nil, Int.reduceToNat, Int.reducePow, Nat.reducePow, Bool.not_true]) | (refine wk_intro (by kernel_rfl) ?_) | (refine vp_draw (id := 2) (l := []) (by kernel_rfl) ?_) | (refine vp_draw (id := 5) (l := [31]) (by kernel_rfl) ?_) | (refine vf_of (by first | exact hT | exact r0) ?_))
  · by_cases h2 : (n : Int) ≤ k
    · rw [show cdfB n k x = ((1 : Int) : Rat) by unfold cdfB; rw [if_neg h1, if_pos h2]; rfl]
      repeat (first | (simp only [go_sem, Nat.reduceEqDiff, Nat.reduceAdd, Nat.reduceSub, Nat.reduceMul, Nat.reduceLeDiff, Nat.reduceLT, reduceIte, reduceCtorEq, Nat.succ_ne_zero, elemsC, Int.reduceToNat, Nat.reducePow, Bool.not_true]) | (simp (disch := (first | omega | (simp only [AL, List.length_map]; omega))) only [AR, AL, ifT, ifF, take_all, List.length_cons, List.length_nil, Int.reduceToNat, Int.reducePow, Nat.reducePow, Bool.not_true]) | (refine wk_intro (by kernel_rfl) ?_) | (refine vp_draw (id := 2) (l := []) (by kernel_rfl) ?_) | (refine vp_draw (id := 5) (l := [31]) (by kernel_rfl) ?_) | (refine vf_of (by first | exact hT | exact r1) ?_))
    · obtain ⟨K, rfl⟩ : ∃ K : Nat, k = (K : Int) := ⟨k.toNat, by omega⟩
      rw [show cdfB n (K : Int) x = mkRat (sumN x.num.natAbs (x.den - x.num.natAbs) n (K + 1) : Nat) (x.den ^ n) by unfold cdfB; rw [if_neg h1, if_neg h2, Int.toNat_natCast]]
      have hf := lim_len_mono (Nat.sub_le x.den x.num.natAbs)
      have t1 := disc_tries (n := n) (k := K) hvv hL hL2 hn (by omega) hle
      have tl := fun j (hj : j < K + 1) => term_len (p := x.num.natAbs) (f := x.den - x.num.natAbs) (n := n) hn (by omega) (by omega) j (by omega)
      have sl : ∀ j, j ≤ K + 1 → (lim (sumN x.num.natAbs (x.den - x.num.natAbs) n j)).length ≤ 100000 := by
        intro j hj
        have : ∀ j, j ≤ K + 1 → (lim (sumN x.num.natAbs (x.den - x.num.natAbs) n j)).length ≤ 90000 + j := by
          intro j
          induction j with
          | zero => intro _; rw [show sumN x.num.natAbs (x.den - x.num.natAbs) n 0 = 0 from rfl, lim_zero]; simp
          | succ j ih =>
            intro hj
            exact lim_len_add2 (L := 90000 + j) (ih (by omega)) (Nat.le_trans (tl j (by omega)) (Nat.le_add_right _ _))
        have := this j hj
        omega
      have s1 := disc_sum (n := n) (k := K + 1) (g := termN x.num.natAbs (x.den - x.num.natAbs) n) (S := sumN x.num.natAbs (x.den - x.num.natAbs) n) hvv hL hL2 hn (by omega) rfl (fun _ => rfl) tl sl
      repeat (first | (simp only [go_sem, Nat.reduceEqDiff, Nat.reduceAdd, Nat.reduceSub, Nat.reduceMul, Nat.reduceLeDiff, Nat.reduceLT, reduceIte, reduceCtorEq, Nat.succ_ne_zero, elemsC, Int.reduceToNat, Nat.reducePow, Bool.not_true]) | (simp (disch := (first | omega | (simp only [AL, List.length_map]; omega))) only [AR, AL, ifT, ifF, take_all, List.length_cons, List.length_nil, Int.reduceToNat, Int.reducePow, Nat.reducePow, Bool.not_true]) | (refine wk_intro (by kernel_rfl) ?_) | (refine vp_draw (id := 2) (l := []) (by kernel_rfl) ?_) | (refine vp_draw (id := 5) (l := [31]) (by kernel_rfl) ?_) | (refine vf_of (by first | exact hT | exact t1 | exact s1) ?_))
end Go.Proofs.YthbjgdmcnonofaaGreat

/- vernierref13.bad, powers, parts, Least, BinomCdf; vernierref15.Least, in the evaluator. -/
namespace Go.Proofs.YthbjgdmcnonofaaGreat
set_option linter.unusedSimpArgs false
set_option linter.unusedVariables false
set_option maxRecDepth 8000
open Go.Ev
theorem not_lt_dec' {q r : Rat} : (!decide (q < r)) = decide (r ≤ q) := by
  by_cases h : q < r
  · rw [decide_eq_true h, decide_eq_false (show ¬ r ≤ q by grind)]; rfl
  · rw [decide_eq_false h, decide_eq_true (show r ≤ q by grind)]; rfl
theorem ref13_bad {v : SV} {x : Rat} {L : Nat} {n : Int} (hv : RatA v x L) (hL : 1 ≤ L) (h : L ≤ 524288) : Go.Ev.Fn CX 62 [.int .i64 n, v] (.bool (!tryD n x)) := by
  have r0 := ref2_Int 0 (by omega)
  have r1 := ref2_Int 1 (by omega)
  have c0 := ref2_Cmp hv (RatA_rv (int_szR (n := 0) (by omega))) hL (by omega) (by omega)
  have c1 := ref2_Cmp hv (RatA_rv (int_szR (n := 1) (by omega))) hL (by omega) (by omega)
  have e0 : decide (cmpR x ((0 : Int) : Rat) < 0) = decide (x < ((0 : Int) : Rat)) := cmpR_lt
  have e1 : decide (cmpR x ((1 : Int) : Rat) > 0) = decide (((1 : Int) : Rat) < x) := cmpR_gt
  have d0 : decide (0 ≤ x) = !decide (x < ((0 : Int) : Rat)) := not_lt_dec'.symm
  have d1 : decide (x ≤ 1) = !decide (((1 : Int) : Rat) < x) := not_lt_dec'.symm
  unfold tryD
  rw [d0, d1]
  obtain ⟨s, y, d, rfl, -⟩ := hv
  generalize decide (x < ((0 : Int) : Rat)) = b at *
  generalize decide (((1 : Int) : Rat) < x) = c at *
  clear d0 d1
  by_cases h1 : 0 ≤ n
  · rw [decide_eq_true h1, Bool.true_and]
    by_cases h2 : n ≤ 256
    · rw [decide_eq_true h2, Bool.true_and]
      cases b
      · cases c
        all_goals
          refine Go.Ev.Fn.intro (fn := Tryz.f62) (body := (Tryz.f62).body.get!) (by kernel_rfl) (by kernel_rfl) (by kernel_rfl) (fun _ => rfl) (Nat.le_of_ble_eq_true (by kernel_rfl)) ?_; unfold Tryz.f62; simp only [Option.get!_some]
          repeat (first | (simp only [go_sem, Nat.reduceEqDiff, Nat.reduceAdd, Nat.reduceSub, Nat.reduceMul, Nat.reduceLeDiff, Nat.reduceLT, reduceIte, reduceCtorEq, Nat.succ_ne_zero, elemsC, Int.reduceToNat, Nat.reducePow, e0, e1]) | (simp (disch := (first | omega | (simp only [AL, List.length_map]; omega))) only [AR, AL, ifT, ifF, take_all, List.length_cons, List.length_nil, Int.reduceToNat, Int.reducePow, Nat.reducePow, e0, e1]) | (refine wk_intro (by kernel_rfl) ?_) | (refine vp_draw (id := 1) (l := []) (by kernel_rfl) ?_) | (refine vf_of (by first | exact r0 | exact c0 | exact r1 | exact c1) ?_))
          rfl
      · rw [show (!(!true && !c)) = true from rfl]
        refine Go.Ev.Fn.intro (fn := Tryz.f62) (body := (Tryz.f62).body.get!) (by kernel_rfl) (by kernel_rfl) (by kernel_rfl) (fun _ => rfl) (Nat.le_of_ble_eq_true (by kernel_rfl)) ?_; unfold Tryz.f62; simp only [Option.get!_some]
        repeat (first | (simp only [go_sem, Nat.reduceEqDiff, Nat.reduceAdd, Nat.reduceSub, Nat.reduceMul, Nat.reduceLeDiff, Nat.reduceLT, reduceIte, reduceCtorEq, Nat.succ_ne_zero, elemsC, Int.reduceToNat, Nat.reducePow, e0]) | (simp (disch := (first | omega | (simp only [AL, List.length_map]; omega))) only [AR, AL, ifT, ifF, take_all, List.length_cons, List.length_nil, Int.reduceToNat, Int.reducePow, Nat.reducePow, e0]) | (refine wk_intro (by kernel_rfl) ?_) | (refine vp_draw (id := 1) (l := []) (by kernel_rfl) ?_) | (refine vf_of (by first | exact r0 | exact c0) ?_))
    · rw [decide_eq_false h2, Bool.false_and]
      refine Go.Ev.Fn.intro (fn := Tryz.f62) (body := (Tryz.f62).body.get!) (by kernel_rfl) (by kernel_rfl) (by kernel_rfl) (fun _ => rfl) (Nat.le_of_ble_eq_true (by kernel_rfl)) ?_; unfold Tryz.f62; simp only [Option.get!_some]
      repeat (first | (simp only [go_sem, Nat.reduceEqDiff, Nat.reduceAdd, Nat.reduceSub, Nat.reduceMul, Nat.reduceLeDiff, Nat.reduceLT, reduceIte, reduceCtorEq, Nat.succ_ne_zero, elemsC, Int.reduceToNat, Nat.reducePow]) | (simp (disch := (first | omega | (simp only [AL, List.length_map]; omega))) only [AR, AL, ifT, ifF, take_all, List.length_cons, List.length_nil, Int.reduceToNat, Int.reducePow, Nat.reducePow]) | (refine wk_intro (by kernel_rfl) ?_) | (refine vp_draw (id := 1) (l := []) (by kernel_rfl) ?_))
      rfl
  · rw [decide_eq_false h1, Bool.false_and]
    refine Go.Ev.Fn.intro (fn := Tryz.f62) (body := (Tryz.f62).body.get!) (by kernel_rfl) (by kernel_rfl) (by kernel_rfl) (fun _ => rfl) (Nat.le_of_ble_eq_true (by kernel_rfl)) ?_; unfold Tryz.f62; simp only [Option.get!_some]
    repeat (first | (simp only [go_sem, Nat.reduceEqDiff, Nat.reduceAdd, Nat.reduceSub, Nat.reduceMul, Nat.reduceLeDiff, Nat.reduceLT, reduceIte, reduceCtorEq, Nat.succ_ne_zero, elemsC, Int.reduceToNat, Nat.reducePow]) | (simp (disch := (first | omega | (simp only [AL, List.length_map]; omega))) only [AR, AL, ifT, ifF, take_all, List.length_cons, List.length_nil, Int.reduceToNat, Int.reducePow, Nat.reducePow]) | (refine wk_intro (by kernel_rfl) ?_) | (refine vp_draw (id := 1) (l := []) (by kernel_rfl) ?_))
    rfl
theorem rows_first (g : Nat → Nat) (h : g 0 = 1) : [natV [1]] = rowsC g 1 := by
  show [natV [1]] = [natV (lim (g 0))]
  rw [h, lim_one]
theorem ref13_powers {X n : Nat} (hn : n ≤ 256) (hX : (lim X).length ≤ 100) : Go.Ev.Fn CX 121 [natV (lim X), .int .i64 (n : Int)] (.sl (n + 1) (rowsC (fun j => X ^ j) (n + 1))) := by
  have h1 := rows_first (fun j => X ^ j) (Nat.pow_zero X)
  have lp : ∀ i, i ≤ n → (lim (X ^ i)).length ≤ 25601 := by
    intro i hi
    have h1 := pow_lim_len X i
    have h2 : (lim X).length * i ≤ 100 * 256 := Nat.mul_le_mul (by omega) (by omega)
    omega
  refine Go.Ev.Fn.intro (fn := Tryz.f121) (body := (Tryz.f121).body.get!) (by kernel_rfl) (by kernel_rfl) (by kernel_rfl) (fun _ => rfl) (Nat.le_of_ble_eq_true (by kernel_rfl)) ?_; unfold Tryz.f121; simp only [Option.get!_some]
  repeat (first | (simp only [go_sem, Nat.reduceEqDiff, Nat.reduceAdd, Nat.reduceSub, Nat.reduceMul, Nat.reduceLeDiff, Nat.reduceLT, reduceIte, reduceCtorEq, Nat.succ_ne_zero, elemsC, Int.reduceToNat, Nat.reducePow]) | (simp (disch := (first | omega | (simp only [AL, List.length_map]; omega))) only [AR, AL, ifT, ifF, take_all, List.length_cons, List.length_nil, Int.reduceToNat, Int.reducePow, Nat.reducePow]) | (refine wk_intro (by kernel_rfl) ?_))
  refine vp_loop_inv (fun s => s.tmp 0 = .sv (natV (lim X)) ∧ s.tmp 1 = .sv (.int .i64 (n : Int)) ∧
      ∃ i : Nat, i ≤ n ∧ s.tmp 6 = .sv (.int .i64 (i : Int)) ∧ s.tmp 5 = .ref 8 0 1 0 (i + 1) ∧ s.obj 8 0 = some (rowsC (fun j => X ^ j) (i + 1)))
    (fun s => match s.tmp 6 with | .sv (.int _ i) => n - i.toNat | _ => 0) ⟨rfl, rfl, 0, by omega, rfl, rfl, by first | exact congrArg some h1 | skip⟩ ?_
  rintro s ⟨i0, i1, i, hi, i6, i5, iO⟩
  have hlen := rows_len (fun j => X ^ j) (i + 1)
  by_cases hend : i = n
  · subst hend
    repeat (first | (simp only [go_sem, Nat.reduceEqDiff, Nat.reduceAdd, Nat.reduceSub, Nat.reduceMul, Nat.reduceLeDiff, Nat.reduceLT, reduceIte, reduceCtorEq, Nat.succ_ne_zero, elemsC, Int.reduceToNat, Nat.reducePow, i0, i1, i6, i5, iO]) | (simp (disch := (first | omega | (simp only [AL, List.length_map]; omega))) only [AR, AL, ifT, ifF, take_all, List.length_cons, List.length_nil, Int.reduceToNat, Int.reducePow, Nat.reducePow, i0, i1, i6, i5, iO]) | (refine wk_intro (by kernel_rfl) ?_))
    refine ro_ref (cs := rowsC (fun j => X ^ j) (i + 1)) (by decide) ?_ ?_
    · simp only [go_sem, Nat.reduceEqDiff, Nat.reduceAdd, Nat.reduceSub, Nat.reduceMul, Nat.reduceLeDiff, Nat.reduceLT, reduceIte, reduceCtorEq, Nat.succ_ne_zero, elemsC, Int.reduceToNat, Nat.reducePow, i5, iO]
    · rw [List.drop_zero, Nat.mul_one, List.take_of_length_le (Nat.le_of_eq (rows_len _ _))]
  · have hat := rows_at (fun j => X ^ j) (i := i + 1) (j := i) (by omega)
    have hsn := rows_snoc (fun j => X ^ j) (i + 1)
    have hl1 := lp i (by omega)
    have hM := ref1_MulL (N := X ^ i) (D := X) (by omega) (by omega)
    rw [← Nat.pow_succ] at hM
    repeat (first | (simp only [go_sem, Nat.reduceEqDiff, Nat.reduceAdd, Nat.reduceSub, Nat.reduceMul, Nat.reduceLeDiff, Nat.reduceLT, reduceIte, reduceCtorEq, Nat.succ_ne_zero, elemsC, Int.reduceToNat, Nat.reducePow, i0, i1, i6, i5, iO, N0, hat, hsn, hlen]) | (simp (disch := (first | omega | (simp only [AL, List.length_map]; omega))) only [AR, AL, ifT, ifF, take_all, List.length_cons, List.length_nil, Int.reduceToNat, Int.reducePow, Nat.reducePow, i0, i1, i6, i5, iO, N0, hat, hsn, hlen]) | (refine wk_intro (by kernel_rfl) ?_) | (refine vf_of (by first | exact hM) ?_))
    exact ⟨⟨i + 1, by omega, rfl, rfl, rfl⟩, by omega⟩
end Go.Proofs.YthbjgdmcnonofaaGreat

/- vernierref13.parts, Least, BinomCdf, in the evaluator. -/
namespace Go.Proofs.YthbjgdmcnonofaaGreat
set_option linter.unusedSimpArgs false
set_option linter.unusedVariables false
set_option maxRecDepth 8000
open Go.Ev
theorem rv_nat (c : Nat) : rv ((c : Nat) : Rat) = ratV false (lim c) (lim 1) := by
  show ratV (decide (((c : Nat) : Rat).num < 0)) (lim ((c : Nat) : Rat).num.natAbs) (lim ((c : Nat) : Rat).den) = _
  rw [Rat.num_natCast, Rat.den_natCast, Int.natAbs_natCast, decide_eq_false (by omega)]
theorem chR_in {n j : Nat} (h : j ≤ n) (hn : n ≤ 512) : chR (n : Int) (j : Int) = cc (n - j) j := by
  unfold chR
  rw [if_pos ⟨by omega, by omega, by omega, by omega⟩, show ((n : Int) - (j : Int)).toNat = n - j by omega, Int.toNat_natCast]
theorem ref13_parts {v : SV} {x : Rat} {L : Nat} {n : Nat} (hv : RatA v x L) (hL : 1 ≤ L) (hL2 : L ≤ 100) (hn : n ≤ 256) :
    Go.Ev.Fn CX 63 [.int .i64 (n : Int), v] (.tup [.sl (n + 1) (rowsC (termN x.num.natAbs (x.den - x.num.natAbs) n) (n + 1)), natV (lim (x.den ^ n))]) := by
  have hN := ref2_Norm hv (by omega)
  obtain ⟨z1, z2⟩ := szR_of hv hL
  obtain ⟨s, y, d, rfl, -⟩ := hv
  generalize hp : x.num.natAbs = p at *
  generalize hd : x.den = D at *
  have hS := ref1_SubL (N := D) (D := p) (by omega) (by omega)
  have hf := lim_len_mono (Nat.sub_le D p)
  generalize hff : D - p = f at *
  have p1 := ref13_powers (X := p) (n := n) hn (by omega)
  have p2 := ref13_powers (X := f) (n := n) hn (by omega)
  have p3 := ref13_powers (X := D) (n := n) hn (by omega)
  have tlast := rows_at (fun j => D ^ j) (i := n + 1) (j := n) (by omega)
  have l1 := rows_len (fun j => p ^ j) (n + 1)
  have l2 := rows_len (fun j => f ^ j) (n + 1)
  have l3 := rows_len (fun j => D ^ j) (n + 1)
  have pl : ∀ (X : Nat) (i : Nat), (lim X).length ≤ 100 → i ≤ n → (lim (X ^ i)).length ≤ 25601 := by
    intro X i hX hi
    have h1 := pow_lim_len X i
    have h2 : (lim X).length * i ≤ 100 * 256 := Nat.mul_le_mul hX (by omega)
    omega
  refine Go.Ev.Fn.intro (fn := Tryz.f63) (body := (Tryz.f63).body.get!) (by kernel_rfl) (by kernel_rfl) (by kernel_rfl) (fun _ => rfl) (Nat.le_of_ble_eq_true (by kernel_rfl)) ?_; unfold Tryz.f63; simp only [Option.get!_some]
  repeat (first | (simp only [go_sem, Nat.reduceEqDiff, Nat.reduceAdd, Nat.reduceSub, Nat.reduceMul, Nat.reduceLeDiff, Nat.reduceLT, reduceIte, reduceCtorEq, Nat.succ_ne_zero, elemsC, Int.reduceToNat, Nat.reducePow, hp, hd]) | (simp (disch := (first | omega | (simp only [AL, List.length_map]; omega))) only [AR, AL, ifT, ifF, take_all, List.length_cons, List.length_nil, Int.reduceToNat, Int.reducePow, Nat.reducePow, hp, hd]) | (refine wk_intro (by kernel_rfl) ?_) | (refine vp_draw (id := 3) (l := [25, 7, 32]) (by kernel_rfl) ?_) | (refine vp_draw (id := 8) (l := [48, 54, 44, 55]) (by kernel_rfl) ?_) | (refine vp_draw (id := 9) (l := []) (by kernel_rfl) ?_) | (refine vf_of (by first | exact hN | exact hS | exact p1 | exact p2 | exact p3) ?_))
  refine vp_loop_inv (fun s => s.tmp 0 = .sv (.int .i64 (n : Int)) ∧ s.tmp 9 = .sv (.sl (n + 1) (rowsC (fun j => p ^ j) (n + 1))) ∧ s.tmp 10 = .sv (.sl (n + 1) (rowsC (fun j => f ^ j) (n + 1))) ∧ s.tmp 11 = .sv (.sl (n + 1) (rowsC (fun j => D ^ j) (n + 1))) ∧
      ∃ j : Nat, s.tmp 13 = .sv (.int .i64 (j : Int)) ∧ j ≤ n + 1 ∧ ((j = 0 ∧ s.tmp 12 = .nil ∧ s.gen 58 = 0 ∧ s.tmp 44 = .undef ∧ s.tmp 48 = .undef ∧ s.tmp 54 = .undef ∧ s.tmp 55 = .undef) ∨
        (0 < j ∧ s.tmp 12 = .ref 58 0 1 0 j ∧ s.obj 58 0 = some (rowsC (termN p f n) j) ∧ ∃ w x y z, s.tmp 44 = .sv w ∧ s.tmp 48 = .sv x ∧ s.tmp 54 = .sv y ∧ s.tmp 55 = .sv z)))
    (fun s => match s.tmp 13 with | .sv (.int _ i) => n + 1 - i.toNat | _ => 0) ⟨rfl, rfl, rfl, rfl, 0, rfl, by omega, .inl ⟨rfl, rfl, rfl, rfl, rfl, rfl, rfl⟩⟩ ?_
  rintro s2 ⟨i0, i9, i10, i11, j, i13, hj, hl⟩
  by_cases hend : j = n + 1
  · subst hend
    rcases hl with ⟨h0, _⟩ | ⟨_, j12, jL, -⟩
    · omega
    · repeat (first | (simp only [go_sem, Nat.reduceEqDiff, Nat.reduceAdd, Nat.reduceSub, Nat.reduceMul, Nat.reduceLeDiff, Nat.reduceLT, reduceIte, reduceCtorEq, Nat.succ_ne_zero, elemsC, Int.reduceToNat, Nat.reducePow, i0, i9, i10, i11, i13, j12, jL, tlast, l3]) | (simp (disch := (first | omega | (simp only [AL, List.length_map]; omega))) only [AR, AL, ifT, ifF, take_all, List.length_cons, List.length_nil, Int.reduceToNat, Int.reducePow, Nat.reducePow, i0, i9, i10, i11, i13, j12, jL, tlast, l3]) | (refine wk_intro (by kernel_rfl) ?_) | (refine vp_draw (id := 3) (l := [25, 7, 32]) (by kernel_rfl) ?_) | (refine vp_draw (id := 8) (l := [48, 54, 44, 55]) (by kernel_rfl) ?_) | (refine vp_draw (id := 9) (l := []) (by kernel_rfl) ?_))
      refine ro_ref (cs := rowsC (termN p f n) (n + 1)) (by decide) ?_ ?_
      · simp only [go_sem, Nat.reduceEqDiff, Nat.reduceAdd, Nat.reduceSub, Nat.reduceMul, Nat.reduceLeDiff, Nat.reduceLT, reduceIte, reduceCtorEq, Nat.succ_ne_zero, elemsC, Int.reduceToNat, Nat.reducePow, j12, jL]
      · rw [List.drop_zero, Nat.mul_one, List.take_of_length_le (Nat.le_of_eq (rows_len _ _))]
  · have hjn : j ≤ n := by omega
    have a1 := rows_at (fun j => p ^ j) (i := n + 1) (j := j) (by omega)
    have a2 := rows_at (fun j => f ^ j) (i := n + 1) (j := n - j) (by omega)
    have hsn := rows_snoc (termN p f n) j
    have hrl := rows_len (termN p f n) j
    have lp := pl p j (by omega) hjn
    have lf := pl f (n - j) (by omega) (by omega)
    have hCh := ref9_Choose (n : Int) (j : Int) (by omega) (by omega)
    rw [chR_in hjn (by omega), rv_nat] at hCh
    have lc := cc_lim (m := n - j) (k := j) (by omega)
    have m1 := ref1_MulL (N := p ^ j) (D := f ^ (n - j)) (by omega) (by omega)
    have lm := lim_len_mul (a := p ^ j) (b := f ^ (n - j))
    have m2 := ref1_MulL (N := cc (n - j) j) (D := p ^ j * f ^ (n - j)) (by omega) (by omega)
    rw [← Nat.mul_assoc, show cc (n - j) j * p ^ j * f ^ (n - j) = termN p f n j from rfl] at m2
    clear lc lm lp lf pl
    rcases hl with ⟨h0, j12, jg, k1, k2, k3, k4⟩ | ⟨hj0, j12, jL, w, x', y', z, k1, k2, k3, k4⟩
    · subst h0
      rw [List.drop_zero] at a1
      simp only [Nat.sub_zero] at a2 m1 m2 hCh
      repeat (first | (simp only [go_sem, Nat.reduceEqDiff, Nat.reduceAdd, Nat.reduceSub, Nat.reduceMul, Nat.reduceLeDiff, Nat.reduceLT, reduceIte, reduceCtorEq, Nat.succ_ne_zero, elemsC, Int.reduceToNat, Nat.reducePow, i0, i9, i10, i11, i13, j12, jg, N0, a1, a2, l1, l2, k1, k2, k3, k4, hsn, hrl]) | (simp (disch := (first | omega | (simp only [AL, List.length_map]; omega))) only [AR, AL, ifT, ifF, take_all, List.length_cons, List.length_nil, Int.reduceToNat, Int.reducePow, Nat.reducePow, i0, i9, i10, i11, i13, j12, jg, N0, a1, a2, l1, l2, k1, k2, k3, k4, hsn, hrl]) | (refine wk_intro (by kernel_rfl) ?_) | (refine vp_draw (id := 3) (l := [25, 7, 32]) (by kernel_rfl) ?_) | (refine vp_draw (id := 8) (l := [48, 54, 44, 55]) (by kernel_rfl) ?_) | (refine vp_draw (id := 9) (l := []) (by kernel_rfl) ?_) | (refine vf_of (by first | exact hCh | exact m1 | exact m2) ?_))
      exact ⟨⟨1, rfl, by omega, .inr ⟨by omega, rfl, rfl, _, _, _, _, rfl, rfl, rfl, rfl⟩⟩, by omega⟩
    · repeat (first | (simp only [go_sem, Nat.reduceEqDiff, Nat.reduceAdd, Nat.reduceSub, Nat.reduceMul, Nat.reduceLeDiff, Nat.reduceLT, reduceIte, reduceCtorEq, Nat.succ_ne_zero, elemsC, Int.reduceToNat, Nat.reducePow, i0, i9, i10, i11, i13, j12, jL, N0, a1, a2, l1, l2, k1, k2, k3, k4]) | (simp (disch := (first | omega | (simp only [AL, List.length_map]; omega))) only [AR, AL, ifT, ifF, take_all, List.length_cons, List.length_nil, Int.reduceToNat, Int.reducePow, Nat.reducePow, i0, i9, i10, i11, i13, j12, jL, N0, a1, a2, l1, l2, k1, k2, k3, k4]) | (refine wk_intro (by kernel_rfl) ?_) | (refine vp_draw (id := 3) (l := [25, 7, 32]) (by kernel_rfl) ?_) | (refine vp_draw (id := 8) (l := [48, 54, 44, 55]) (by kernel_rfl) ?_) | (refine vp_draw (id := 9) (l := []) (by kernel_rfl) ?_))
      repeat (first | (simp only [go_sem, Nat.reduceEqDiff, Nat.reduceAdd, Nat.reduceSub, Nat.reduceMul, Nat.reduceLeDiff, Nat.reduceLT, reduceIte, reduceCtorEq, Nat.succ_ne_zero, elemsC, Int.reduceToNat, Nat.reducePow, i0, i9, i10, i11, i13, j12, jL, N0, a1, a2, l1, l2, hsn, hrl]) | (simp (disch := (first | omega | (simp only [AL, List.length_map]; omega))) only [AR, AL, ifT, ifF, take_all, List.length_cons, List.length_nil, Int.reduceToNat, Int.reducePow, Nat.reducePow, i0, i9, i10, i11, i13, j12, jL, N0, a1, a2, l1, l2, hsn, hrl]) | (refine wk_intro (by kernel_rfl) ?_) | (refine vp_draw (id := 3) (l := [25, 7, 32]) (by kernel_rfl) ?_) | (refine vp_draw (id := 8) (l := [48, 54, 44, 55]) (by kernel_rfl) ?_) | (refine vp_draw (id := 9) (l := []) (by kernel_rfl) ?_) | (refine vf_of (by first | exact hCh | exact m1 | exact m2) ?_))
      exact ⟨⟨j + 1, rfl, by omega, .inr ⟨by omega, rfl, rfl, _, _, _, _, rfl, rfl, rfl, rfl⟩⟩, by omega⟩
theorem sum_lens {p f n : Nat} (hn : n ≤ 256) (hp : (lim p).length ≤ 100) (hf : (lim f).length ≤ 100) : ∀ j, j ≤ n + 1 → (lim (sumN p f n j)).length ≤ 90000 + j := by
  intro j
  induction j with
  | zero => intro _; rw [show sumN p f n 0 = 0 from rfl, lim_zero]; simp
  | succ j ih =>
    intro hj
    exact lim_len_add2 (L := 90000 + j) (ih (by omega)) (Nat.le_trans (term_len hn hp hf j (by omega)) (Nat.le_add_right _ _))
theorem cmpN_ge' {a b : Nat} : decide (cmpN a b ≥ 0) = decide (b ≤ a) := by
  unfold cmpN
  by_cases h : a < b
  · rw [if_pos h, decide_eq_false (show ¬ b ≤ a by omega)]; rfl
  · rw [if_neg h, decide_eq_true (show b ≤ a by omega)]; split <;> rfl
theorem ref13_BinomCdf {v : SV} {x : Rat} {L : Nat} {n : Nat} {k : Int} (hv : RatA v x L) (hL : 1 ≤ L) (hL2 : L ≤ 100) (hn : n ≤ 256) (hx0 : 0 ≤ x) (hx1 : x ≤ 1) (hk : -9223372036854775808 ≤ k ∧ k < 9223372036854775808) :
    Go.Ev.Fn CX 22 [.int .i64 (n : Int), .int .i64 k, v] (.tup [rv (cdfB n k x), .bool true]) := by
  have hT := ref13_bad (n := (n : Int)) hv hL (by omega)
  have ht : tryD (n : Int) x = true := by
    unfold tryD
    rw [decide_eq_true (show (0 : Int) ≤ (n : Int) by omega), decide_eq_true (show (n : Int) ≤ 256 by omega), decide_eq_true hx0, decide_eq_true hx1]
    rfl
  rw [ht, Bool.not_true] at hT
  have r1 := ref2_Int 1 (by omega)
  have hP := ref13_parts hv hL hL2 hn
  obtain ⟨z1, z2⟩ := szR_of hv hL
  have hf := lim_len_mono (Nat.sub_le x.den x.num.natAbs)
  have sl := sum_lens (p := x.num.natAbs) (f := x.den - x.num.natAbs) (n := n) hn (by omega) (by omega)
  have tl := fun j (hj : j ≤ n) => term_len (p := x.num.natAbs) (f := x.den - x.num.natAbs) (n := n) hn (by omega) (by omega) j hj
  have dl := pow_lim_len x.den n
  have dl2 : (lim x.den).length * n ≤ 100 * 256 := Nat.mul_le_mul (by omega) hn
  have hlen := rows_len (termN x.num.natAbs (x.den - x.num.natAbs) n) (n + 1)
  obtain ⟨s, y, d, rfl, -⟩ := hv
  by_cases h2 : (n : Int) ≤ k
  · rw [show cdfB n k x = ((1 : Int) : Rat) by unfold cdfB; rw [if_neg (show ¬ k < 0 by omega), if_pos h2]; rfl]
    clear sl tl
    refine Go.Ev.Fn.intro (fn := Tryz.f22) (body := (Tryz.f22).body.get!) (by kernel_rfl) (by kernel_rfl) (by kernel_rfl) (fun _ => rfl) (Nat.le_of_ble_eq_true (by kernel_rfl)) ?_; unfold Tryz.f22; simp only [Option.get!_some]
    repeat (first | (simp only [go_sem, Nat.reduceEqDiff, Nat.reduceAdd, Nat.reduceSub, Nat.reduceMul, Nat.reduceLeDiff, Nat.reduceLT, reduceIte, reduceCtorEq, Nat.succ_ne_zero, elemsC, Int.reduceToNat, Nat.reducePow]) | (simp (disch := (first | omega | (simp only [AL, List.length_map]; omega))) only [AR, AL, ifT, ifF, take_all, List.length_cons, List.length_nil, Int.reduceToNat, Int.reducePow, Nat.reducePow]) | (refine wk_intro (by kernel_rfl) ?_) | (refine vf_of (by first | exact hT | exact r1) ?_))
  · obtain ⟨K, hK0, hK1, hc⟩ : ∃ K : Nat, K ≤ n ∧ (K : Int) = (if k < 0 then 0 else k + 1) ∧ cdfB n k x = mkRat (sumN x.num.natAbs (x.den - x.num.natAbs) n K : Nat) (x.den ^ n) := by
      by_cases h1 : k < 0
      · refine ⟨0, by omega, by rw [if_pos h1]; rfl, ?_⟩
        unfold cdfB
        rw [if_pos h1, show sumN x.num.natAbs (x.den - x.num.natAbs) n 0 = 0 from rfl]
        exact (Rat.zero_mkRat _).symm
      · refine ⟨k.toNat + 1, by omega, by rw [if_neg h1]; omega, ?_⟩
        unfold cdfB
        rw [if_neg h1, if_neg h2]
    rw [hc]
    have lK := sl K (by omega)
    have hOf := ref2_OfL (s := false) (n := sumN x.num.natAbs (x.den - x.num.natAbs) n K) (d := x.den ^ n) (by omega) (by omega)
    rw [show sgn false (sumN x.num.natAbs (x.den - x.num.natAbs) n K) = ((sumN x.num.natAbs (x.den - x.num.natAbs) n K : Nat) : Int) from rfl] at hOf
    have hall := fun j (hj : j < n) => rows_at (termN x.num.natAbs (x.den - x.num.natAbs) n) (i := n + 1) (j := j) (by omega)
    have hstep := fun j => (show sumN x.num.natAbs (x.den - x.num.natAbs) n (j + 1) = sumN x.num.natAbs (x.den - x.num.natAbs) n j + termN x.num.natAbs (x.den - x.num.natAbs) n j from rfl)
    have hzero : sumN x.num.natAbs (x.den - x.num.natAbs) n 0 = 0 := rfl
    generalize hTT : termN x.num.natAbs (x.den - x.num.natAbs) n = T at *
    generalize hS : sumN x.num.natAbs (x.den - x.num.natAbs) n = S at *
    generalize hDn : x.den ^ n = E at *
    have hk2 : (K = 0 ∧ k < 0) ∨ (0 ≤ k ∧ (K : Int) = k + 1) := by
      by_cases h1 : k < 0
      · rw [if_pos h1] at hK1; exact .inl ⟨by omega, h1⟩
      · rw [if_neg h1] at hK1; exact .inr ⟨by omega, hK1⟩
    clear hK1 hc
    refine Go.Ev.Fn.intro (fn := Tryz.f22) (body := (Tryz.f22).body.get!) (by kernel_rfl) (by kernel_rfl) (by kernel_rfl) (fun _ => rfl) (Nat.le_of_ble_eq_true (by kernel_rfl)) ?_; unfold Tryz.f22; simp only [Option.get!_some]
    repeat (first | (simp only [go_sem, Nat.reduceEqDiff, Nat.reduceAdd, Nat.reduceSub, Nat.reduceMul, Nat.reduceLeDiff, Nat.reduceLT, reduceIte, reduceCtorEq, Nat.succ_ne_zero, elemsC, Int.reduceToNat, Nat.reducePow]) | (simp (disch := (first | omega | (simp only [AL, List.length_map]; omega))) only [AR, AL, ifT, ifF, take_all, List.length_cons, List.length_nil, Int.reduceToNat, Int.reducePow, Nat.reducePow]) | (refine wk_intro (by kernel_rfl) ?_) | (refine vf_of (by first | exact hT | exact hP) ?_))
    refine vp_loop_inv (fun s => s.tmp 0 = .sv (.int .i64 (n : Int)) ∧ s.tmp 1 = .sv (.int .i64 k) ∧ s.tmp 6 = .ptr 6 0 0 ∧ s.obj 6 0 = some [.bool false, .sl 0 [], .sl 0 []] ∧ s.tmp 8 = .sv (.sl (n + 1) (rowsC T (n + 1))) ∧ s.tmp 9 = .sv (natV (lim E)) ∧
        ∃ i : Nat, s.tmp 11 = .sv (.int .i64 (i : Int)) ∧ i ≤ K ∧ ((i = 0 ∧ s.tmp 10 = .nil) ∨ s.tmp 10 = .sv (natV (lim (S i)))))
      (fun s => match s.tmp 11 with | .sv (.int _ i) => K - i.toNat | _ => 0) ⟨rfl, rfl, rfl, rfl, rfl, rfl, 0, rfl, by omega, .inl ⟨rfl, rfl⟩⟩ ?_
    rintro s2 ⟨i0, i1, i6, iR, i8, i9, i, i11, hi, h10⟩
    by_cases hend : i = K
    · subst hend
      clear hall hstep sl tl
      rcases h10 with ⟨h0, i10⟩ | i10
      · rw [h0, hzero, lim_zero] at hOf
        rw [h0, hzero]
        repeat (first | (simp only [go_sem, Nat.reduceEqDiff, Nat.reduceAdd, Nat.reduceSub, Nat.reduceMul, Nat.reduceLeDiff, Nat.reduceLT, reduceIte, reduceCtorEq, Nat.succ_ne_zero, elemsC, Int.reduceToNat, Nat.reducePow, i0, i1, i6, iR, i8, i9, i11, i10]) | (simp (disch := (first | omega | (simp only [AL, List.length_map]; omega))) only [AR, AL, ifT, ifF, take_all, List.length_cons, List.length_nil, Int.reduceToNat, Int.reducePow, Nat.reducePow, i0, i1, i6, iR, i8, i9, i11, i10]) | (refine wk_intro (by kernel_rfl) ?_) | (refine vf_of (by first | exact hOf) ?_))
      · repeat (first | (simp only [go_sem, Nat.reduceEqDiff, Nat.reduceAdd, Nat.reduceSub, Nat.reduceMul, Nat.reduceLeDiff, Nat.reduceLT, reduceIte, reduceCtorEq, Nat.succ_ne_zero, elemsC, Int.reduceToNat, Nat.reducePow, i0, i1, i6, iR, i8, i9, i11, i10]) | (simp (disch := (first | omega | (simp only [AL, List.length_map]; omega))) only [AR, AL, ifT, ifF, take_all, List.length_cons, List.length_nil, Int.reduceToNat, Int.reducePow, Nat.reducePow, i0, i1, i6, iR, i8, i9, i11, i10]) | (refine wk_intro (by kernel_rfl) ?_))
        refine vf_of (hOf) ?_; repeat (first | (simp only [go_sem, Nat.reduceEqDiff, Nat.reduceAdd, Nat.reduceSub, Nat.reduceMul, Nat.reduceLeDiff, Nat.reduceLT, reduceIte, reduceCtorEq, Nat.succ_ne_zero, elemsC, Int.reduceToNat, Nat.reducePow, i0, i1, i6, iR, i8, i9, i11, i10]) | (simp (disch := (first | omega | (simp only [AL, List.length_map]; omega))) only [AR, AL, ifT, ifF, take_all, List.length_cons, List.length_nil, Int.reduceToNat, Int.reducePow, Nat.reducePow, i0, i1, i6, iR, i8, i9, i11, i10]) | (refine wk_intro (by kernel_rfl) ?_))
    · have hik : (i : Int) ≤ k := by omega
      have hat := hall i (by omega)
      have lS := sl i (by omega)
      have lT := tl i (by omega)
      have hA := ref1_AddL (N := S i) (D := T i) (by omega) (by omega)
      rw [← hstep] at hA
      clear hall hstep sl tl hOf
      rcases h10 with ⟨h0, i10⟩ | i10
      · subst h0
        rw [hzero, lim_zero] at hA
        rw [List.drop_zero] at hat
        repeat (first | (simp only [go_sem, Nat.reduceEqDiff, Nat.reduceAdd, Nat.reduceSub, Nat.reduceMul, Nat.reduceLeDiff, Nat.reduceLT, reduceIte, reduceCtorEq, Nat.succ_ne_zero, elemsC, Int.reduceToNat, Nat.reducePow, i0, i1, i6, iR, i8, i9, i11, i10, hat, hlen]) | (simp (disch := (first | omega | (simp only [AL, List.length_map]; omega))) only [AR, AL, ifT, ifF, take_all, List.length_cons, List.length_nil, Int.reduceToNat, Int.reducePow, Nat.reducePow, i0, i1, i6, iR, i8, i9, i11, i10, hat, hlen]) | (refine wk_intro (by kernel_rfl) ?_) | (refine vf_of (by first | exact hA) ?_))
        exact ⟨⟨1, rfl, by omega, .inr rfl⟩, by omega⟩
      · repeat (first | (simp only [go_sem, Nat.reduceEqDiff, Nat.reduceAdd, Nat.reduceSub, Nat.reduceMul, Nat.reduceLeDiff, Nat.reduceLT, reduceIte, reduceCtorEq, Nat.succ_ne_zero, elemsC, Int.reduceToNat, Nat.reducePow, i0, i1, i6, iR, i8, i9, i11, i10, hat, hlen]) | (simp (disch := (first | omega | (simp only [AL, List.length_map]; omega))) only [AR, AL, ifT, ifF, take_all, List.length_cons, List.length_nil, Int.reduceToNat, Int.reducePow, Nat.reducePow, i0, i1, i6, iR, i8, i9, i11, i10, hat, hlen]) | (refine wk_intro (by kernel_rfl) ?_))
        refine vf_of (hA) ?_; repeat (first | (simp only [go_sem, Nat.reduceEqDiff, Nat.reduceAdd, Nat.reduceSub, Nat.reduceMul, Nat.reduceLeDiff, Nat.reduceLT, reduceIte, reduceCtorEq, Nat.succ_ne_zero, elemsC, Int.reduceToNat, Nat.reducePow, i0, i1, i6, iR, i8, i9, i11, i10, hat, hlen]) | (simp (disch := (first | omega | (simp only [AL, List.length_map]; omega))) only [AR, AL, ifT, ifF, take_all, List.length_cons, List.length_nil, Int.reduceToNat, Int.reducePow, Nat.reducePow, i0, i1, i6, iR, i8, i9, i11, i10, hat, hlen]) | (refine wk_intro (by kernel_rfl) ?_))
        exact ⟨⟨i + 1, rfl, by omega, .inr rfl⟩, by omega⟩
end Go.Proofs.YthbjgdmcnonofaaGreat

/- vernierlaw12: known, IncbCounts, in the evaluator. -/
namespace Go.Proofs.YthbjgdmcnonofaaGreat
set_option linter.unusedSimpArgs false
set_option linter.unusedVariables false
set_option maxRecDepth 8000
open Go.Ev
section
variable {v : SV} {x : Rat} {A B p : Nat}
/-- Of whole numbers the share is told: it lies in the ball, which is as narrow as asked. -/
theorem incb_I (hv : RatA v x 1) (hA : 1 ≤ A) (hB : 1 ≤ B) (hAB : A + B ≤ 10) (hp : p ≤ 60) (h0 : 0 ≤ x) (h1 : x ≤ 1) : ∃ lo hi : Rat, Go.Ev.Fn CX 15 [.int .i64 (2 * (A : Int)), .int .i64 (2 * (B : Int)), v, .int .i64 (p : Int)] (.tup [ballR lo hi, .bool true]) ∧
    lo ≤ sS x (1 - x) (A + B - 1) B ∧ sS x (1 - x) (A + B - 1) B ≤ hi ∧ (hi - lo) * p2 p ≤ 1 ∧ szR lo 110 ∧ szR hi 110 := by
  have zx := szR_of hv (by omega)
  have hP := p2_pos p
  have one1 : szR 1 1 := ⟨lim_len_lt (by decide +kernel), lim_len_lt (by decide +kernel)⟩
  have fin : ∀ {A' B' : Nat}, (lim A').length ≤ 100 → (lim B').length ≤ 100 → szR (mkRat ((A' / 2 ^ (p + 300 - (p + 2)) : Nat) : Int) (2 ^ (p + 2))) 101 ∧ szR (mkRat ((B' / 2 ^ (p + 300 - (p + 2)) + 1 : Nat) : Int) (2 ^ (p + 2))) 101 := by
    intro A' B' hA' hB'
    have l3 := lim_len_mono (Nat.div_le_self A' (2 ^ (p + 300 - (p + 2))))
    have l4 := lim_len_mono (Nat.div_le_self B' (2 ^ (p + 300 - (p + 2))))
    have l1 := lim_len1
    have l5 := lim_len_add (a := B' / 2 ^ (p + 300 - (p + 2))) (b := 1) (L := 100) (by omega) (by omega)
    have lp := lim_len_shl (a := 1) (n := p + 2)
    rw [Nat.one_mul] at lp
    exact ⟨szR_mk (s := false) (n := A' / 2 ^ (p + 300 - (p + 2))) (d := 2 ^ (p + 2)) (L := 101) (by omega) (by omega) (by omega), szR_mk (s := false) (n := B' / 2 ^ (p + 300 - (p + 2)) + 1) (d := 2 ^ (p + 2)) (L := 101) (by omega) (by omega) (by omega)⟩
  by_cases hx0 : x = 0
  · have f := incb_I_ends (a := 2 * (A : Int)) (b := 2 * (B : Int)) (pI := (p : Int)) hv (by omega) (by omega) (by omega) (by omega) (.inl hx0)
    subst hx0
    have hz : ∀ j, j ≤ B → sS 0 (1 - 0) (A + B - 1) j = 0 := by
      intro j
      induction j with
      | zero => intro _; rfl
      | succ j ih =>
        intro hj
        show sS 0 (1 - 0) (A + B - 1) j + trm 0 (1 - 0) (A + B - 1) j = 0
        rw [ih (by omega)]
        unfold trm
        rw [show A + B - 1 - j = (A + B - 2 - j) + 1 by omega, pwR_succ]
        grind
    rw [hz B (Nat.le_refl _)]
    exact ⟨0, 0, f, Rat.le_refl, Rat.le_refl, by rw [Rat.sub_self, Rat.zero_mul]; decide, szR_mono zx (by omega), szR_mono zx (by omega)⟩
  by_cases hx1 : x = 1
  · have f := incb_I_ends (a := 2 * (A : Int)) (b := 2 * (B : Int)) (pI := (p : Int)) hv (by omega) (by omega) (by omega) (by omega) (.inr hx1)
    subst hx1
    have hz : ∀ j, j < B → sS 1 (1 - 1) (A + B - 1) (j + 1) = 1 := by
      intro j
      induction j with
      | zero =>
        intro _
        show 0 + trm 1 (1 - 1) (A + B - 1) 0 = 1
        unfold trm
        have e : ∀ n, pwR 1 n = 1 := by
          intro n
          induction n with
          | zero => rfl
          | succ n ih => rw [pwR_succ, ih, Rat.mul_one]
        rw [cc_zero, e]
        show (0 : Rat) + ((1 : Nat) : Rat) * 1 * 1 = 1
        decide +kernel
      | succ j ih =>
        intro hj
        show sS 1 (1 - 1) (A + B - 1) (j + 1) + trm 1 (1 - 1) (A + B - 1) (j + 1) = 1
        rw [ih (by omega)]
        unfold trm
        rw [pwR_succ]
        grind
    have hB2 := hz (B - 1) (by omega)
    rw [show B - 1 + 1 = B by omega] at hB2
    rw [hB2]
    exact ⟨1, 1, f, Rat.le_refl, Rat.le_refl, by rw [Rat.sub_self, Rat.zero_mul]; decide, szR_mono zx (by omega), szR_mono zx (by omega)⟩
  have hpos : 0 < x := by clear fin; grind
  have hlt : x < 1 := by clear fin; grind
  by_cases hh : x + x ≤ 1
  · obtain ⟨-, -, A', B', K, hg⟩ := row_ends (w := p + 300) hA hB hAB h0 hh (by omega) (by omega)
    obtain ⟨g1, g2, g3, g4⟩ := row_has hA hB hAB h0 hh (by omega) (by omega) hg
    have lB := lim_len_p2 g4 (by omega)
    have lA : (lim A').length ≤ 100 := by
      have : A' ≤ B' := by
        have h := Rat.le_trans g1 g2
        exact_mod_cast h
      exact Nat.le_trans (lim_len_mono this) (by omega)
    have f := incb_I_low hv (by omega) (by omega) hA hB hAB hp hpos hh hg ⟨lA, by omega⟩
    obtain ⟨t1, t2, t3⟩ := told_has g1 g2 g3
    obtain ⟨z1, z2⟩ := fin lA (show (lim B').length ≤ 100 by omega)
    exact ⟨_, _, f, t1, t2, t3, szR_mono z1 (by omega), szR_mono z2 (by omega)⟩
  · have hh' : 1 < x + x := by clear fin; grind
    have hy : (1 - x) + (1 - x) ≤ 1 := by clear fin; grind
    have hy0 : 0 ≤ 1 - x := by clear fin; grind
    obtain ⟨-, -, A', B', K, hg⟩ := row_ends (x := 1 - x) (w := p + 300) hB hA (by omega) hy0 hy (by omega) (by omega)
    obtain ⟨g1, g2, g3, g4⟩ := row_has hB hA (by omega) hy0 hy (by omega) (by omega) hg
    have lB := lim_len_p2 g4 (by omega)
    have lA : (lim A').length ≤ 100 := by
      have : A' ≤ B' := by
        have h := Rat.le_trans g1 g2
        exact_mod_cast h
      exact Nat.le_trans (lim_len_mono this) (by omega)
    have f := incb_I_high hv (by omega) (by omega) hA hB hAB hp hh' hlt hg ⟨lA, by omega⟩
    obtain ⟨t1, t2, t3⟩ := told_has g1 g2 g3
    obtain ⟨z1, z2⟩ := fin lA (show (lim B').length ≤ 100 by omega)
    have tn := sS_turn (x := x) (y := 1 - x) (by clear fin hg f t1 t2 t3 g1 g2 g3 g4; grind) (n := A + B - 1) B (by omega)
    rw [show A + B - 1 + 1 - B = A by omega] at tn
    rw [show 1 - (1 - x) = x by clear fin hg f t1 t2 t3 g1 g2 g3 g4; grind, show B + A - 1 = A + B - 1 by omega] at t1 t2
    refine ⟨_, _, f, ?_, ?_, ?_, szR_mono (szR_sub one1 z2 (by omega)) (by omega), szR_mono (szR_sub one1 z1 (by omega)) (by omega)⟩
    all_goals clear hg f fin g1 g2 g3 g4 lA lB z1 z2
    all_goals
      generalize mkRat ((B' / 2 ^ (p + 300 - (p + 2)) + 1 : Nat) : Int) (2 ^ (p + 2)) = q2 at *
      generalize mkRat ((A' / 2 ^ (p + 300 - (p + 2)) : Nat) : Int) (2 ^ (p + 2)) = q1 at *
    · grind
    · grind
    · have e : 1 - q1 - (1 - q2) = q2 - q1 := by grind
      rw [e]; exact t3
end
theorem third_len : szR (mkRat 1 3) 1 := ⟨lim_len_lt (by decide +kernel), lim_len_lt (by decide +kernel)⟩
theorem known12 : Go.Ev.Fn CX 19 [] (.bool true) := by
  have o := ref2_Of false [1] [3] (by simp [okL]) (by simp [okL]) (by simp) (by simp)
  rw [show wth [1] = 1 from rfl, show wth [3] = 3 from rfl] at o
  have o' : Go.Ev.Fn CX 37 [.bool false, .sl 1 [.int .u32 1], .sl 1 [.int .u32 3]] (rv (mkRat 1 3)) := o
  obtain ⟨lo, hi, f, g1, g2, g3, z1, z2⟩ := incb_I (A := 1) (B := 1) (p := 20) (RatA_rv third_len) (by omega) (by omega) (by omega) (by omega) (by decide +kernel) (by decide +kernel)
  have hV : sS (mkRat 1 3) (1 - mkRat 1 3) (1 + 1 - 1) 1 = mkRat 1 3 := by
    show 0 + ((cc 1 0 : Nat) : Rat) * (1 * mkRat 1 3) * 1 = _
    rw [cc_zero]
    have : ((1 : Nat) : Rat) = 1 := rfl
    rw [this]; grind
  rw [hV] at g1 g2
  have f' : Go.Ev.Fn CX 15 [.int .i64 2, .int .i64 2, rv (mkRat 1 3), .int .i64 20] (.tup [ballR lo hi, .bool true]) := f
  have of := ref4_Of (RatA_rv third_len) (by omega)
  have gd := ref4_Good (p := 20) (P := 20) (.inr rfl) (by omega) z1 z2 third_len third_len (by omega) (by omega) (by omega) (Rat.le_trans g1 g2) g2 g1 g3
  clear f o hV g1 g2 g3
  generalize mkRat 1 3 = t at *
  refine Go.Ev.Fn.intro (fn := Tryz.f19) (body := (Tryz.f19).body.get!) (by kernel_rfl) (by kernel_rfl) (by kernel_rfl) (fun _ => rfl) (Nat.le_of_ble_eq_true (by kernel_rfl)) ?_; unfold Tryz.f19; simp only [Option.get!_some]
  repeat (first | (simp only [go_sem, Nat.reduceEqDiff, Nat.reduceAdd, Nat.reduceSub, Nat.reduceMul, Nat.reduceLeDiff, Nat.reduceLT, reduceIte, reduceCtorEq, Nat.succ_ne_zero, elemsC, Int.reduceToNat, Nat.reducePow]) | (simp (disch := (first | omega | (simp only [AL, List.length_map]; omega))) only [AR, AL, ifT, ifF, take_all, List.length_cons, List.length_nil, Int.reduceToNat, Int.reducePow, Nat.reducePow]) | (refine wk_intro (by kernel_rfl) ?_) | (refine vp_draw (id := 3) (l := []) (by kernel_rfl) ?_) | (refine vf_of (by first | exact o' | exact f' | exact of | exact gd) ?_))
theorem ref13_BinomCdf_bad {v : SV} {x : Rat} {n : Nat} {k : Int} (hv : RatA v x 1) (hx : x < 0 ∨ 1 < x) (hn : n ≤ 256) : Go.Ev.Fn CX 22 [.int .i64 (n : Int), .int .i64 k, v] (.tup [rv 0, .bool false]) := by
  have b := ref13_bad (n := (n : Int)) hv (by omega) (by omega)
  have e : tryD (n : Int) x = false := by
    unfold tryD
    rcases hx with h | h
    · rw [decide_eq_false (show ¬ 0 ≤ x by grind)]; simp
    · rw [decide_eq_false (show ¬ x ≤ 1 by grind)]; simp
  rw [e] at b
  have i0 := ref2_Int 0 (by omega)
  rw [show ((0 : Int) : Rat) = 0 from rfl] at i0
  obtain ⟨s, m, d, rfl, -⟩ := hv
  refine Go.Ev.Fn.intro (fn := Tryz.f22) (body := (Tryz.f22).body.get!) (by kernel_rfl) (by kernel_rfl) (by kernel_rfl) (fun _ => rfl) (Nat.le_of_ble_eq_true (by kernel_rfl)) ?_; unfold Tryz.f22; simp only [Option.get!_some]
  repeat (first | (simp only [go_sem, Nat.reduceEqDiff, Nat.reduceAdd, Nat.reduceSub, Nat.reduceMul, Nat.reduceLeDiff, Nat.reduceLT, reduceIte, reduceCtorEq, Nat.succ_ne_zero, elemsC, Int.reduceToNat, Nat.reducePow, Bool.not_false]) | (simp (disch := (first | omega | (simp only [AL, List.length_map]; omega))) only [AR, AL, ifT, ifF, take_all, List.length_cons, List.length_nil, Int.reduceToNat, Int.reducePow, Nat.reducePow, Bool.not_false]) | (refine wk_intro (by kernel_rfl) ?_) | (refine vf_of (by first | exact b | exact i0) ?_))
section
variable {x : Rat} {k n p : Int} {s : Bool} {nm dm : List Nat}
theorem counts_out (hn : nm.length ≤ 9223372036854775807) (hd : dm.length ≤ 9223372036854775807) (hk : -9223372036854775808 ≤ k ∧ k < 9223372036854775808) (hn' : -9223372036854775808 ≤ n ∧ n < 9223372036854775808) (hp : -9223372036854775808 ≤ p ∧ p < 9223372036854775808)
    (h : 1 < nm.length ∨ 1 < dm.length ∨ p < 0 ∨ 60 < p ∨ k < 1 ∨ n < k ∨ 9 < n) : Go.Ev.Fn CX 5 [.int .i64 k, .int .i64 n, ratV s nm dm, .int .i64 p] (.bool true) := by
  by_cases c1 : 1 < nm.length
  · refine Go.Ev.Fn.intro (fn := Tryz.f5) (body := (Tryz.f5).body.get!) (by kernel_rfl) (by kernel_rfl) (by kernel_rfl) (fun _ => rfl) (Nat.le_of_ble_eq_true (by kernel_rfl)) ?_; unfold Tryz.f5; simp only [Option.get!_some]
    repeat (first | (simp only [go_sem, Nat.reduceEqDiff, Nat.reduceAdd, Nat.reduceSub, Nat.reduceMul, Nat.reduceLeDiff, Nat.reduceLT, reduceIte, reduceCtorEq, Nat.succ_ne_zero, elemsC, Int.reduceToNat, Nat.reducePow]) | (simp (disch := (first | omega | (simp only [AL, List.length_map]; omega))) only [AR, AL, ifT, ifF, take_all, List.length_cons, List.length_nil, Int.reduceToNat, Int.reducePow, Nat.reducePow]) | (refine wk_intro (by kernel_rfl) ?_) | (refine vp_draw (id := 7) (l := []) (by kernel_rfl) ?_))
  by_cases c2 : 1 < dm.length
  · refine Go.Ev.Fn.intro (fn := Tryz.f5) (body := (Tryz.f5).body.get!) (by kernel_rfl) (by kernel_rfl) (by kernel_rfl) (fun _ => rfl) (Nat.le_of_ble_eq_true (by kernel_rfl)) ?_; unfold Tryz.f5; simp only [Option.get!_some]
    repeat (first | (simp only [go_sem, Nat.reduceEqDiff, Nat.reduceAdd, Nat.reduceSub, Nat.reduceMul, Nat.reduceLeDiff, Nat.reduceLT, reduceIte, reduceCtorEq, Nat.succ_ne_zero, elemsC, Int.reduceToNat, Nat.reducePow]) | (simp (disch := (first | omega | (simp only [AL, List.length_map]; omega))) only [AR, AL, ifT, ifF, take_all, List.length_cons, List.length_nil, Int.reduceToNat, Int.reducePow, Nat.reducePow]) | (refine wk_intro (by kernel_rfl) ?_) | (refine vp_draw (id := 7) (l := []) (by kernel_rfl) ?_))
  by_cases c3 : p < 0
  · refine Go.Ev.Fn.intro (fn := Tryz.f5) (body := (Tryz.f5).body.get!) (by kernel_rfl) (by kernel_rfl) (by kernel_rfl) (fun _ => rfl) (Nat.le_of_ble_eq_true (by kernel_rfl)) ?_; unfold Tryz.f5; simp only [Option.get!_some]
    repeat (first | (simp only [go_sem, Nat.reduceEqDiff, Nat.reduceAdd, Nat.reduceSub, Nat.reduceMul, Nat.reduceLeDiff, Nat.reduceLT, reduceIte, reduceCtorEq, Nat.succ_ne_zero, elemsC, Int.reduceToNat, Nat.reducePow]) | (simp (disch := (first | omega | (simp only [AL, List.length_map]; omega))) only [AR, AL, ifT, ifF, take_all, List.length_cons, List.length_nil, Int.reduceToNat, Int.reducePow, Nat.reducePow]) | (refine wk_intro (by kernel_rfl) ?_) | (refine vp_draw (id := 7) (l := []) (by kernel_rfl) ?_))
  by_cases c4 : 60 < p
  · refine Go.Ev.Fn.intro (fn := Tryz.f5) (body := (Tryz.f5).body.get!) (by kernel_rfl) (by kernel_rfl) (by kernel_rfl) (fun _ => rfl) (Nat.le_of_ble_eq_true (by kernel_rfl)) ?_; unfold Tryz.f5; simp only [Option.get!_some]
    repeat (first | (simp only [go_sem, Nat.reduceEqDiff, Nat.reduceAdd, Nat.reduceSub, Nat.reduceMul, Nat.reduceLeDiff, Nat.reduceLT, reduceIte, reduceCtorEq, Nat.succ_ne_zero, elemsC, Int.reduceToNat, Nat.reducePow]) | (simp (disch := (first | omega | (simp only [AL, List.length_map]; omega))) only [AR, AL, ifT, ifF, take_all, List.length_cons, List.length_nil, Int.reduceToNat, Int.reducePow, Nat.reducePow]) | (refine wk_intro (by kernel_rfl) ?_) | (refine vp_draw (id := 7) (l := []) (by kernel_rfl) ?_))
  by_cases c5 : k < 1
  · refine Go.Ev.Fn.intro (fn := Tryz.f5) (body := (Tryz.f5).body.get!) (by kernel_rfl) (by kernel_rfl) (by kernel_rfl) (fun _ => rfl) (Nat.le_of_ble_eq_true (by kernel_rfl)) ?_; unfold Tryz.f5; simp only [Option.get!_some]
    repeat (first | (simp only [go_sem, Nat.reduceEqDiff, Nat.reduceAdd, Nat.reduceSub, Nat.reduceMul, Nat.reduceLeDiff, Nat.reduceLT, reduceIte, reduceCtorEq, Nat.succ_ne_zero, elemsC, Int.reduceToNat, Nat.reducePow]) | (simp (disch := (first | omega | (simp only [AL, List.length_map]; omega))) only [AR, AL, ifT, ifF, take_all, List.length_cons, List.length_nil, Int.reduceToNat, Int.reducePow, Nat.reducePow]) | (refine wk_intro (by kernel_rfl) ?_) | (refine vp_draw (id := 7) (l := []) (by kernel_rfl) ?_))
  by_cases c6 : n < k
  · refine Go.Ev.Fn.intro (fn := Tryz.f5) (body := (Tryz.f5).body.get!) (by kernel_rfl) (by kernel_rfl) (by kernel_rfl) (fun _ => rfl) (Nat.le_of_ble_eq_true (by kernel_rfl)) ?_; unfold Tryz.f5; simp only [Option.get!_some]
    repeat (first | (simp only [go_sem, Nat.reduceEqDiff, Nat.reduceAdd, Nat.reduceSub, Nat.reduceMul, Nat.reduceLeDiff, Nat.reduceLT, reduceIte, reduceCtorEq, Nat.succ_ne_zero, elemsC, Int.reduceToNat, Nat.reducePow]) | (simp (disch := (first | omega | (simp only [AL, List.length_map]; omega))) only [AR, AL, ifT, ifF, take_all, List.length_cons, List.length_nil, Int.reduceToNat, Int.reducePow, Nat.reducePow]) | (refine wk_intro (by kernel_rfl) ?_) | (refine vp_draw (id := 7) (l := []) (by kernel_rfl) ?_))
  · refine Go.Ev.Fn.intro (fn := Tryz.f5) (body := (Tryz.f5).body.get!) (by kernel_rfl) (by kernel_rfl) (by kernel_rfl) (fun _ => rfl) (Nat.le_of_ble_eq_true (by kernel_rfl)) ?_; unfold Tryz.f5; simp only [Option.get!_some]
    repeat (first | (simp only [go_sem, Nat.reduceEqDiff, Nat.reduceAdd, Nat.reduceSub, Nat.reduceMul, Nat.reduceLeDiff, Nat.reduceLT, reduceIte, reduceCtorEq, Nat.succ_ne_zero, elemsC, Int.reduceToNat, Nat.reducePow]) | (simp (disch := (first | omega | (simp only [AL, List.length_map]; omega))) only [AR, AL, ifT, ifF, take_all, List.length_cons, List.length_nil, Int.reduceToNat, Int.reducePow, Nat.reducePow]) | (refine wk_intro (by kernel_rfl) ?_) | (refine vp_draw (id := 7) (l := []) (by kernel_rfl) ?_))
theorem counts_main {K N P : Nat} (hv : RatA (ratV s nm dm) x 1) (h1 : nm.length ≤ 1) (h2 : dm.length ≤ 1) (hk : 1 ≤ K) (hkn : K ≤ N) (hn : N ≤ 9) (hp : P ≤ 60) :
    Go.Ev.Fn CX 5 [.int .i64 (K : Int), .int .i64 (N : Int), ratV s nm dm, .int .i64 (P : Int)] (.bool true) := by
  have zx := szR_of hv (by omega)
  by_cases hx : x < 0 ∨ 1 < x
  · have f := incb_I_out (a := 2 * (K : Int)) (b := 2 * ((N - K + 1 : Nat) : Int)) (pI := (P : Int)) hv (by omega) (by omega) (by omega) (by omega) hx
    have c := ref13_BinomCdf_bad (n := N) (k := (K : Int) - 1) hv hx (by omega)
    rw [show (K : Int) - 1 = ((K - 1 : Nat) : Int) by omega] at c
    have hb : (false == false) = true := rfl
    refine Go.Ev.Fn.intro (fn := Tryz.f5) (body := (Tryz.f5).body.get!) (by kernel_rfl) (by kernel_rfl) (by kernel_rfl) (fun _ => rfl) (Nat.le_of_ble_eq_true (by kernel_rfl)) ?_; unfold Tryz.f5; simp only [Option.get!_some]
    repeat (first | (simp only [go_sem, Nat.reduceEqDiff, Nat.reduceAdd, Nat.reduceSub, Nat.reduceMul, Nat.reduceLeDiff, Nat.reduceLT, reduceIte, reduceCtorEq, Nat.succ_ne_zero, elemsC, Int.reduceToNat, Nat.reducePow, hb, Bool.not_false]) | (simp (disch := (first | omega | (simp only [AL, List.length_map]; omega))) only [AR, AL, ifT, ifF, take_all, List.length_cons, List.length_nil, Int.reduceToNat, Int.reducePow, Nat.reducePow, hb, Bool.not_false]) | (refine wk_intro (by kernel_rfl) ?_) | (refine vp_draw (id := 7) (l := []) (by kernel_rfl) ?_) | (refine vf_of (by first | exact f | exact c | exact known12) ?_))
  · have h0 : 0 ≤ x := by grind
    have h1' : x ≤ 1 := by grind
    obtain ⟨lo, hi, f, g1, g2, g3, z1, z2⟩ := incb_I (A := K) (B := N - K + 1) (p := P) hv hk (by omega) (by omega) hp h0 h1'
    have c := ref13_BinomCdf (n := N) (k := (K : Int) - 1) hv (by omega) (by omega) (by omega) h0 h1' (by omega)
    rw [cdf_is h0 h1' hk hkn, show (K : Int) - 1 = ((K - 1 : Nat) : Int) by omega] at c
    have tn := sS_turn (x := x) (y := 1 - x) (by grind) (n := N) (N - K + 1) (by omega)
    rw [show N + 1 - (N - K + 1) = K by omega] at tn
    rw [show K + (N - K + 1) - 1 = N by omega] at g1 g2
    have eV : sS x (1 - x) N (N - K + 1) = 1 - sS (1 - x) x N K := by grind
    rw [eV] at g1 g2
    have i1 := ref2_Int 1 (by omega)
    have zc : szR (sS (1 - x) x N K) 90020 := by
      rw [← cdf_is h0 h1' hk hkn]
      unfold cdfB
      rw [if_neg (by omega), if_neg (by omega)]
      have q1 := zx.1
      have q2 := zx.2
      have q3 := lim_len_mono (Nat.sub_le x.den x.num.natAbs)
      have q4 := sum_lens (n := N) (by omega) (show (lim x.num.natAbs).length ≤ 100 by omega) (show (lim (x.den - x.num.natAbs)).length ≤ 100 by omega) (((K : Int) - 1).toNat + 1) (by omega)
      have q5 := pow_lim_len x.den N
      have q6 : (lim x.den).length * N ≤ 1 * 9 := Nat.mul_le_mul q2 hn
      exact szR_mk (s := false) (by omega) (by omega) (by omega)
    have one1 : szR 1 1 := ⟨lim_len_lt (by decide +kernel), lim_len_lt (by decide +kernel)⟩
    have sb := ref2_Sub (RatA_rv (int_szR (n := 1) (by omega))) (RatA_rv zc) (by omega) (by omega) (by omega)
    have zs := szR_sub one1 zc (by omega)
    rw [show ((1 : Int) : Rat) = 1 from rfl] at i1 sb
    have of := ref4_Of (RatA_rv zs) (by omega)
    have gd := ref4_Good (p := (P : Int)) (P := P) (.inr rfl) (by omega) z1 z2 zs zs (by omega) (by omega) (by omega) (Rat.le_trans g1 g2) g2 g1 g3
    clear g1 g2 g3 eV tn
    generalize 1 - sS (1 - x) x N K = u at *
    generalize sS (1 - x) x N K = t at *
    refine Go.Ev.Fn.intro (fn := Tryz.f5) (body := (Tryz.f5).body.get!) (by kernel_rfl) (by kernel_rfl) (by kernel_rfl) (fun _ => rfl) (Nat.le_of_ble_eq_true (by kernel_rfl)) ?_; unfold Tryz.f5; simp only [Option.get!_some]
    repeat (first | (simp only [go_sem, Nat.reduceEqDiff, Nat.reduceAdd, Nat.reduceSub, Nat.reduceMul, Nat.reduceLeDiff, Nat.reduceLT, reduceIte, reduceCtorEq, Nat.succ_ne_zero, elemsC, Int.reduceToNat, Nat.reducePow, Bool.not_true]) | (simp (disch := (first | omega | (simp only [AL, List.length_map]; omega))) only [AR, AL, ifT, ifF, take_all, List.length_cons, List.length_nil, Int.reduceToNat, Int.reducePow, Nat.reducePow, Bool.not_true]) | (refine wk_intro (by kernel_rfl) ?_) | (refine vp_draw (id := 7) (l := []) (by kernel_rfl) ?_) | (refine vf_of (by first | exact f | exact c | exact i1 | exact sb | exact of | exact gd | exact known12) ?_))
end
theorem wf_int64i {n : Int} (h : (Lit.int .i64 n).wf = true) : -9223372036854775808 ≤ n ∧ n < 9223372036854775808 := by
  have h' : decide (IntKind.i64.min ≤ n ∧ n ≤ IntKind.i64.max) = true := by simpa [Lit.wf] using h
  have := of_decide_eq_true h'
  simp only [show IntKind.i64.min = -9223372036854775808 from rfl, show IntKind.i64.max = 9223372036854775807 from rfl] at this
  omega
theorem counts_law (k : Int) (w0 : (Lit.int .i64 k).wf = true) (n : Int) (w1 : (Lit.int .i64 n).wf = true) (ss2 : List SV) (sh2 : ShpT Tryz.prog 6 24 ss2) (p : Int) (w3 : (Lit.int .i64 p).wf = true) :
    Go.Ev.Fn CX 5 [.int .i64 k, .int .i64 n, .agg ss2, .int .i64 p] (.bool true) := by
  obtain ⟨s, nm, dm, rfl, hn, hd, ln, ld⟩ := shp_rat (n := 3) sh2
  have r0 := wf_int64i w0
  have r1 := wf_int64i w1
  have r3 := wf_int64i w3
  have m1 := Nat.le_trans ln (show maxLen ≤ 9223372036854775807 by decide)
  have m2 := Nat.le_trans ld (show maxLen ≤ 9223372036854775807 by decide)
  by_cases c : nm.length ≤ 1 ∧ dm.length ≤ 1 ∧ 0 ≤ p ∧ p ≤ 60 ∧ 1 ≤ k ∧ k ≤ n ∧ n ≤ 9
  · obtain ⟨c1, c2, c3, c4, c5, c6, c7⟩ := c
    obtain ⟨P, rfl⟩ : ∃ P : Nat, p = (P : Int) := ⟨p.toNat, by omega⟩
    obtain ⟨K, rfl⟩ : ∃ K : Nat, k = (K : Int) := ⟨k.toNat, by omega⟩
    obtain ⟨N, rfl⟩ : ∃ N : Nat, n = (N : Int) := ⟨n.toNat, by omega⟩
    exact counts_main ⟨s, nm, dm, rfl, hn, hd, c1, c2, rfl⟩ c1 c2 (by omega) (by omega) (by omega) (by omega)
  · exact counts_out m1 m2 r0 r1 r3 (by omega)
end Go.Proofs.YthbjgdmcnonofaaGreat
