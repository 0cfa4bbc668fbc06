/- Part 11 of the proof: the evaluator, contracts of functions and their plain laws (joined by program). No condition. -/
import Derived.Test.YtigiblhmhmgagaaGreatPart10
/- What the row of whole numbers tells has the share, and is narrow: plain mathematics. -/
namespace Go.Proofs.YtigiblhmhmgagaaGreat
open Go.Ev
set_option linter.unusedVariables false
section
variable {x y : Rat}
theorem sS_total (h : x + y = 1) : ∀ n, sS x y n (n + 1) = 1 := by
  intro n
  induction n with
  | zero =>
    show 0 + trm x y 0 0 = 1
    unfold trm
    rw [cc_zero]
    show (0 : Rat) + ((1 : Nat) : Rat) * 1 * 1 = 1
    decide +kernel
  | succ n ih =>
    have h1 := sS_step (x := x) (y := y) (n := n) n (Nat.le_refl _)
    have h2 : sS x y n (n + 1) = sS x y n n + trm x y n n := rfl
    have t1 : trm x y n n = pwR y n := by
      unfold trm
      rw [Nat.sub_self, show cc 0 n = 1 by simp [cc]]
      show ((1 : Nat) : Rat) * 1 * pwR y n = _
      have : ((1 : Nat) : Rat) = 1 := rfl
      rw [this]; grind
    have t2 : trm x y (n + 1) (n + 1) = pwR y n * y := by
      unfold trm
      rw [Nat.sub_self, show cc 0 (n + 1) = 1 by simp [cc], pwR_succ]
      show ((1 : Nat) : Rat) * 1 * _ = _
      have : ((1 : Nat) : Rat) = 1 := rfl
      rw [this]; grind
    show sS x y (n + 1) (n + 1) + trm x y (n + 1) (n + 1) = 1
    rw [h1, t2]
    rw [t1] at h2
    rw [ih] at h2 ⊢
    have e : x = 1 - y := by grind
    rw [e]
    grind
theorem trm_turn {n i : Nat} (h : i ≤ n) : trm x y n i = trm y x n (n - i) := by
  unfold trm
  rw [show n - (n - i) = i by omega, cc_symm]
  grind
theorem sS_turn (h : x + y = 1) {n : Nat} : ∀ j, j ≤ n + 1 → sS x y n j + sS y x n (n + 1 - j) = 1 := by
  intro j
  induction j with
  | zero =>
    intro _
    show 0 + sS y x n (n + 1) = 1
    rw [sS_total (by grind)]; grind
  | succ j ih =>
    intro hj
    have h1 := ih (by omega)
    have h2 := trm_turn (x := x) (y := y) (n := n) (i := j) (by omega)
    have h3 : sS y x n (n + 1 - j) = sS y x n (n - j) + trm y x n (n - j) := by
      rw [show n + 1 - j = (n - j) + 1 by omega]; rfl
    show sS x y n j + trm x y n j + sS y x n (n + 1 - (j + 1)) = 1
    rw [show n + 1 - (j + 1) = n - j by omega, h2]
    grind
theorem pwR_den {q : Rat} {X D : Nat} (h : q * (D : Rat) = (X : Rat)) : ∀ n, pwR q n * ((D ^ n : Nat) : Rat) = ((X ^ n : Nat) : Rat)
  | 0 => by show (1 : Rat) * ((1 : Nat) : Rat) = ((1 : Nat) : Rat); rw [Rat.one_mul]
  | n + 1 => by
    have ih := pwR_den h n
    rw [pwR_succ, Nat.pow_succ, Nat.pow_succ, cm, cm, ← ih, ← h]
    grind
theorem sS_den {X F D n : Nat} (hx : x * (D : Rat) = (X : Rat)) (hy : y * (D : Rat) = (F : Rat)) : ∀ k, k ≤ n + 1 → sS y x n k * ((D ^ n : Nat) : Rat) = ((sumN X F n k : Nat) : Rat) := by
  intro k
  induction k with
  | zero => intro _; show (0 : Rat) * _ = ((0 : Nat) : Rat); rw [Rat.zero_mul]; rfl
  | succ k ih =>
    intro hk
    have h1 := ih (by omega)
    have h2 : trm y x n k * ((D ^ n : Nat) : Rat) = ((termN X F n k : Nat) : Rat) := by
      unfold trm termN
      rw [cm, cm, ← pwR_den hx k, ← pwR_den hy (n - k)]
      have e : ((D ^ n : Nat) : Rat) = ((D ^ k : Nat) : Rat) * ((D ^ (n - k) : Nat) : Rat) := by rw [← cm, ← Nat.pow_add, show k + (n - k) = n by omega]
      rw [e]
      grind
    show (sS y x n k + trm y x n k) * _ = ((sumN X F n k + termN X F n k : Nat) : Rat)
    rw [cn, ← h1, ← h2]
    grind
end
theorem cdf_is {x : Rat} (h0 : 0 ≤ x) (h1 : x ≤ 1) {n k : Nat} (hk : 1 ≤ k) (hkn : k ≤ n) : cdfB n ((k : Int) - 1) x = sS (1 - x) x n k := by
  unfold cdfB
  rw [if_neg (by omega), if_neg (by omega), show ((k : Int) - 1).toNat + 1 = k by omega]
  obtain ⟨u1, u2⟩ := unit_num h0 h1
  have hx : x * (x.den : Rat) = ((x.num.natAbs : Nat) : Rat) := by
    rw [num_den' x, ← u2]; rfl
  have hy : (1 - x) * (x.den : Rat) = ((x.den - x.num.natAbs : Nat) : Rat) := by
    have e : ((x.den - x.num.natAbs : Nat) : Rat) + ((x.num.natAbs : Nat) : Rat) = (x.den : Rat) := by rw [← cn]; congr 1; omega
    grind
  have h := sS_den hx hy (n := n) k (by omega)
  have D : (0 : Rat) < ((x.den ^ n : Nat) : Rat) := by exact_mod_cast (den_pos x n)
  have m : mkRat ((sumN x.num.natAbs (x.den - x.num.natAbs) n k : Nat) : Int) (x.den ^ n) * ((x.den ^ n : Nat) : Rat) = ((sumN x.num.natAbs (x.den - x.num.natAbs) n k : Nat) : Rat) := by
    rw [Rat.mkRat_eq_div]
    exact Rat.div_mul_cancel (by grind)
  have e : (mkRat ((sumN x.num.natAbs (x.den - x.num.natAbs) n k : Nat) : Int) (x.den ^ n) - sS (1 - x) x n k) * ((x.den ^ n : Nat) : Rat) = 0 := by
    generalize mkRat ((sumN x.num.natAbs (x.den - x.num.natAbs) n k : Nat) : Int) (x.den ^ n) = z at *
    generalize ((x.den ^ n : Nat) : Rat) = d at *
    grind
  rcases Rat.mul_eq_zero.1 e with g | g
  · grind
  · grind
section
variable {x : Rat} {A B w : Nat}
theorem un_enc {q : Rat} (h0 : 0 ≤ q) (w : Nat) : Enc w (unN q w) (unN q w + 1) q := by
  have D : (0 : Rat) < (q.den : Rat) := by exact_mod_cast q.den_pos
  have f := floor_le (a := q.num.natAbs * 2 ^ w) (d := q.den)
  have g := le_floor (a := q.num.natAbs * 2 ^ w) (d := q.den) q.den_pos
  have e : ((q.num.natAbs * 2 ^ w : Nat) : Rat) = q * p2 w * (q.den : Rat) := by
    rw [cm]
    have h := num_den' q
    have h2 : ((q.num.natAbs : Nat) : Rat) = (q.num : Rat) := by
      have : (q.num.natAbs : Int) = q.num := Int.natAbs_of_nonneg (Rat.num_nonneg.2 h0)
      rw [← this]; rfl
    rw [h2, ← h]
    show q * (q.den : Rat) * p2 w = _
    grind
  rw [e] at f g
  exact ⟨le_by D f, le_by D g⟩
theorem pw_enc {q : Rat} (h0 : 0 ≤ q) (hA : A ≤ 15) : Enc w (pwN q A w).1 (pwN q A w).2 (pwR q A) := by
  have one : Enc w (2 ^ w) (2 ^ w + 1) 1 := by
    refine ⟨by rw [Rat.one_mul]; exact Rat.le_refl, ?_⟩
    rw [Rat.one_mul]
    exact_mod_cast Nat.le_succ (2 ^ w)
  have h := powGo_enc 4 A _ _ _ _ (by omega) one (un_enc h0 w)
  rw [Rat.one_mul] at h
  exact h
theorem fs_enc (h0 : 0 ≤ x) (h1 : x ≤ 1) (hA : A ≤ 15) (hB : B ≤ 15) : Enc w (fsN x A B w).1 (fsN x A B w).2 (((cc (B - 1) A : Nat) : Rat) * (pwR x A * pwR (1 - x) B)) := by
  have m := enc_mul (pw_enc (w := w) h0 hA) (pw_enc (w := w) (q := 1 - x) (by grind) hB)
  have t := enc_times (n := cc (B - 1) A) (d := 1) (by omega) m
  rw [Nat.div_one, Nat.div_one] at t
  have e : pwR x A * pwR (1 - x) B * ((cc (B - 1) A : Nat) : Rat) / ((1 : Nat) : Rat) = ((cc (B - 1) A : Nat) : Rat) * (pwR x A * pwR (1 - x) B) := by
    have : ((1 : Nat) : Rat) = 1 := rfl
    rw [this, Rat.div_def, show (1 : Rat)⁻¹ = 1 from by decide +kernel, Rat.mul_one, Rat.mul_comm]
  rw [e] at t
  exact t
/-- What the row tells has the share, and is narrow. -/
theorem row_has {A' B' K : Nat} (hA : 1 ≤ A) (hB : 1 ≤ B) (hAB : A + B ≤ 10) (h0 : 0 ≤ x) (h1 : x + x ≤ 1) (hw0 : 60 ≤ w) (hw : w ≤ 400)
    (hg : rowGo w (unN x w) (unN x w + 1) (2 * A) (2 * B) 2201 0 (fsN x A B w).1 (fsN x A B w).2 (fsN x A B w).1 (fsN x A B w).2 = some (A', B', K)) :
    (A' : Rat) ≤ sS x (1 - x) (A + B - 1) B * p2 w ∧ sS x (1 - x) (A + B - 1) B * p2 w ≤ (B' : Rat) ∧ B' ≤ A' + 2 ^ 102 ∧ B' ≤ 2 ^ (w + 61) := by
  obtain ⟨hP, hy, -⟩ := row_ends hA hB hAB h0 h1 hw0 hw
  have ok := fs_ok hA hB hAB h0 (show x ≤ 1 by grind) hw0
  have hp9 : 2 ^ (w + 9) = 2 ^ w * 512 := by rw [Nat.pow_add]
  have h40 : 4 ^ (2 * B) ≤ 4 ^ 18 := Nat.pow_le_pow_right (by omega) (by omega)
  have hC : 4 ^ (2 * B) * 2 ^ (w + 9) ≤ 2 ^ 49 * 2 ^ w := by
    rw [hp9, Nat.mul_comm (2 ^ w) 512, ← Nat.mul_assoc]
    exact Nat.mul_le_mul_right _ (Nat.le_trans (Nat.mul_le_mul_right 512 h40) (by decide))
  obtain ⟨i1, i2, i3, i4⟩ := row_inv (a := 2 * A) (b := 2 * B) (C := 2 ^ 49) hP rfl hy (by omega) (by omega) (by omega) hC (by decide) 2201 0 _ _ _ _ hg ok
  have enc := fs_enc (w := w) h0 (show x ≤ 1 by grind) (show A ≤ 15 by omega) (show B ≤ 15 by omega)
  have en1 : Enc w (fsN x A B w).1 (fsN x A B w).2 (((cc (B - 1) A : Nat) : Rat) * (pwR x A * pwR (1 - x) B) * rR x (2 * A) (2 * B) 0) := by
    show Enc _ _ _ (_ * 1)
    rw [Rat.mul_one]; exact enc
  have en2 : Enc w (fsN x A B w).1 (fsN x A B w).2 (((cc (B - 1) A : Nat) : Rat) * (pwR x A * pwR (1 - x) B) * sR x (2 * A) (2 * B) 0) := en1
  obtain ⟨hbK, e1, e2, e3⟩ := row_enc (un_enc h0 w) 2201 0 _ _ _ _ hg en1 en2
  have hxy : x + (1 - x) = 1 := by grind
  have s := sum_is hxy hB hA K
  have nn := sS_nn h0 (show 0 ≤ 1 - x by grind) (A + K + 1 + B - 1) B
  have st := share_step hxy hB (A + K)
  have le := share_le h0 (show x ≤ 1 - x by grind) hxy hB (m := A + K) (by omega)
  have tm := term_is (x := x) (y := 1 - x) hB hA K
  have tn := trm_nn h0 (show 0 ≤ 1 - x by grind) (A + K + B - 1) (B - 1)
  have P := p2_pos w
  rw [← tm] at le st
  rw [s]
  generalize ((cc (B - 1) A : Nat) : Rat) * (pwR x A * pwR (1 - x) B) = c at *
  generalize rR x (2 * A) (2 * B) K = r at *
  generalize sR x (2 * A) (2 * B) K = q at *
  generalize sS x (1 - x) (A + K + 1 + B - 1) B = rem at *
  generalize sS x (1 - x) (A + K + B - 1) B = rem' at *
  have tn2 : 0 ≤ c * r := by rw [tm]; exact Rat.mul_nonneg tn (by grind)
  have hr : rem ≤ 4 * (c * r) := by grind
  have hr2 := Rat.mul_le_mul_of_nonneg_right hr (show 0 ≤ p2 w by grind)
  have nn2 : 0 ≤ rem * p2 w := Rat.mul_nonneg nn (by grind)
  refine ⟨?_, ?_, ?_, ?_⟩
  · grind
  · grind
  · have b1 : (K + 1) * (4 ^ (2 * B) * 2 ^ 54) ≤ 2201 * (4 ^ 18 * 2 ^ 54) := Nat.mul_le_mul (by omega) (Nat.mul_le_mul_right _ h40)
    have b2 : 2201 * (4 ^ 18 * 2 ^ 54) + 64 ≤ 2 ^ 102 := by decide
    omega
  · have b1 : (K + 1) * (4 ^ (2 * B) * 2 ^ (w + 9)) ≤ 2201 * (2 ^ 49 * 2 ^ w) := Nat.mul_le_mul (by omega) hC
    have b2 : 2 ^ (w + 61) = 4096 * (2 ^ 49 * 2 ^ w) := by rw [show w + 61 = 12 + (49 + w) by omega, Nat.pow_add, Nat.pow_add]
    have b3 : 64 ≤ 2 ^ 49 * 2 ^ w := Nat.le_trans (by decide) (Nat.le_mul_of_pos_right (2 ^ 49) (by omega))
    omega
theorem p2_ad (a b : Nat) : p2 (a + b) = p2 a * p2 b := by
  show ((2 ^ (a + b) : Nat) : Rat) = ((2 ^ a : Nat) : Rat) * ((2 ^ b : Nat) : Rat)
  rw [← cm, ← Nat.pow_add]
theorem told_has {A' B' p : Nat} {V : Rat} (h1 : (A' : Rat) ≤ V * p2 (p + 300)) (h2 : V * p2 (p + 300) ≤ (B' : Rat)) (h3 : B' ≤ A' + 2 ^ 102) :
    mkRat ((A' / 2 ^ (p + 300 - (p + 2)) : Nat) : Int) (2 ^ (p + 2)) ≤ V ∧ V ≤ mkRat ((B' / 2 ^ (p + 300 - (p + 2)) + 1 : Nat) : Int) (2 ^ (p + 2)) ∧
      (mkRat ((B' / 2 ^ (p + 300 - (p + 2)) + 1 : Nat) : Int) (2 ^ (p + 2)) - mkRat ((A' / 2 ^ (p + 300 - (p + 2)) : Nat) : Int) (2 ^ (p + 2))) * p2 p ≤ 1 := by
  have P1 := p2_pos (p + 2)
  have P2 := p2_pos 298
  rw [show p + 300 - (p + 2) = 298 by omega]
  have m : ∀ a : Nat, mkRat (a : Int) (2 ^ (p + 2)) * p2 (p + 2) = (a : Rat) := by
    intro a
    rw [Rat.mkRat_eq_div]
    exact Rat.div_mul_cancel (by have : (0 : Rat) < ((2 ^ (p + 2) : Nat) : Rat) := P1; grind)
  have hsp : p2 (p + 300) = p2 (p + 2) * p2 298 := by rw [show p + 300 = (p + 2) + 298 by omega, p2_ad]
  have f := floor_le (a := A') (d := 2 ^ 298)
  have g := le_floor (a := B') (d := 2 ^ 298) (Nat.pow_pos (by omega))
  have m1 := m (A' / 2 ^ 298)
  have m2 := m (B' / 2 ^ 298 + 1)
  have gap : B' / 2 ^ 298 ≤ A' / 2 ^ 298 + 1 := by
    obtain ⟨E, hE⟩ : ∃ E : Nat, E = 298 := ⟨_, rfl⟩
    have h6 : 2 ^ 102 ≤ 2 ^ E := Nat.pow_le_pow_right (by omega) (by omega)
    have h4 : B' ≤ A' + 2 ^ E := Nat.le_trans h3 (Nat.add_le_add_left h6 _)
    have h5 := Nat.div_le_div_right (c := 2 ^ E) h4
    rw [Nat.add_div_right _ (Nat.pow_pos (by omega)), hE] at h5
    exact h5
  have gapR : ((B' / 2 ^ 298 + 1 : Nat) : Rat) ≤ ((A' / 2 ^ 298 : Nat) : Rat) + 2 := by
    have : ((A' / 2 ^ 298 : Nat) : Rat) + 2 = ((A' / 2 ^ 298 + 2 : Nat) : Rat) := by exact_mod_cast rfl
    rw [this]
    exact_mod_cast (show B' / 2 ^ 298 + 1 ≤ A' / 2 ^ 298 + 2 by omega)
  have hp2 : p2 (p + 2) = p2 p * 4 := by
    show ((2 ^ (p + 2) : Nat) : Rat) = ((2 ^ p : Nat) : Rat) * ((4 : Nat) : Rat)
    rw [← cm, Nat.pow_add]
  change _ * p2 298 ≤ _ at f
  change _ ≤ _ * p2 298 at g
  generalize mkRat ((A' / 2 ^ 298 : Nat) : Int) (2 ^ (p + 2)) = q1 at *
  generalize mkRat ((B' / 2 ^ 298 + 1 : Nat) : Int) (2 ^ (p + 2)) = q2 at *
  refine ⟨le_by P1 ?_, le_by P1 ?_, ?_⟩
  · rw [m1]
    refine le_by P2 ?_
    have : V * p2 (p + 2) * p2 298 = V * p2 (p + 300) := by rw [hsp]; grind
    rw [this]; exact Rat.le_trans f h1
  · rw [m2]
    refine le_by P2 ?_
    have : V * p2 (p + 2) * p2 298 = V * p2 (p + 300) := by rw [hsp]; grind
    rw [this]; exact Rat.le_trans h2 g
  · rw [hp2] at m1 m2
    grind
end
end Go.Proofs.YtigiblhmhmgagaaGreat

/- slices.Equal, rat.Same; incb.I of whole numbers, in the evaluator. -/
namespace Go.Proofs.YtigiblhmhmgagaaGreat
set_option linter.unusedSimpArgs false
set_option linter.unusedVariables false
set_option maxRecDepth 8000
open Go.Ev
theorem slices_Equal (a b : List Nat) (ha : a.length ≤ 274877906944) (hb : b.length ≤ 274877906944) : Go.Ev.Fn CX 48 [natV a, natV b] (.bool (decide (a = b))) := by
  refine Go.Ev.Fn.intro (fn := Tryz.f48) (body := (Tryz.f48).body.get!) (by kernel_rfl) (by kernel_rfl) (by kernel_rfl) (fun _ => rfl) (Nat.le_of_ble_eq_true (by kernel_rfl)) ?_; unfold Tryz.f48; simp only [Option.get!_some]
  by_cases hl : a.length = b.length
  · repeat (first | (simp only [go_sem, Nat.reduceEqDiff, Nat.reduceAdd, Nat.reduceSub, Nat.reduceMul, Nat.reduceLeDiff, Nat.reduceLT, reduceIte, reduceCtorEq, Nat.succ_ne_zero, elemsC, Int.reduceToNat, Nat.reducePow]) | (simp (disch := (first | omega | (simp only [AL, List.length_map]; omega))) only [AR, AL, ifT, ifF, take_all, List.length_cons, List.length_nil, Int.reduceToNat, Int.reducePow, Nat.reducePow]) | (refine wk_intro (by kernel_rfl) ?_) | (refine vp_draw (id := 6) (l := []) (by kernel_rfl) ?_))
    refine vp_loop_inv (fun s => s.tmp 0 = .sv (natV a) ∧ s.tmp 1 = .sv (natV b) ∧ s.tmp 12 = .sv (.int .i64 (a.length : Int)) ∧ ∃ i : Nat, s.tmp 13 = .sv (.int .i64 i) ∧ i ≤ a.length ∧ a.take i = b.take i) (fun s => match s.tmp 13 with | .sv (.int _ i) => a.length - i.toNat | _ => 0) ⟨rfl, rfl, rfl, 0, rfl, by omega, rfl⟩ ?_
    rintro s ⟨i0, i1, i12, i, i13, hi, ht⟩
    by_cases hend : i = a.length
    · subst hend
      rw [List.take_length, hl, List.take_length] at ht
      rw [decide_eq_true ht]
      repeat (first | (simp only [go_sem, Nat.reduceEqDiff, Nat.reduceAdd, Nat.reduceSub, Nat.reduceMul, Nat.reduceLeDiff, Nat.reduceLT, reduceIte, reduceCtorEq, Nat.succ_ne_zero, elemsC, Int.reduceToNat, Nat.reducePow, i0, i1, i12, i13]) | (simp (disch := (first | omega | (simp only [AL, List.length_map]; omega))) only [AR, AL, ifT, ifF, take_all, List.length_cons, List.length_nil, Int.reduceToNat, Int.reducePow, Nat.reducePow, i0, i1, i12, i13]) | (refine wk_intro (by kernel_rfl) ?_) | (refine vp_draw (id := 6) (l := []) (by kernel_rfl) ?_))
    · have e : ∀ c : List Nat, i < c.length → c.take (i + 1) = c.take i ++ [c.getD i 0] := by
        intro c hc
        rw [List.take_add_one, List.getD_eq_getElem?_getD, List.getElem?_eq_getElem hc]
        rfl
      by_cases hx : a.getD i 0 = b.getD i 0
      · repeat (first | (simp only [go_sem, Nat.reduceEqDiff, Nat.reduceAdd, Nat.reduceSub, Nat.reduceMul, Nat.reduceLeDiff, Nat.reduceLT, reduceIte, reduceCtorEq, Nat.succ_ne_zero, elemsC, Int.reduceToNat, Nat.reducePow, i0, i1, i12, i13]) | (simp (disch := (first | omega | (simp only [AL, List.length_map]; omega))) only [AR, AL, ifT, ifF, take_all, List.length_cons, List.length_nil, Int.reduceToNat, Int.reducePow, Nat.reducePow, i0, i1, i12, i13]) | (refine wk_intro (by kernel_rfl) ?_) | (refine vp_draw (id := 6) (l := []) (by kernel_rfl) ?_))
        exact ⟨⟨i + 1, rfl, by omega, by rw [e a (by omega), e b (by omega), ht, hx]⟩, by omega⟩
      · rw [decide_eq_false (fun h => hx (by rw [h]))]
        repeat (first | (simp only [go_sem, Nat.reduceEqDiff, Nat.reduceAdd, Nat.reduceSub, Nat.reduceMul, Nat.reduceLeDiff, Nat.reduceLT, reduceIte, reduceCtorEq, Nat.succ_ne_zero, elemsC, Int.reduceToNat, Nat.reducePow, i0, i1, i12, i13]) | (simp (disch := (first | omega | (simp only [AL, List.length_map]; omega))) only [AR, AL, ifT, ifF, take_all, List.length_cons, List.length_nil, Int.reduceToNat, Int.reducePow, Nat.reducePow, i0, i1, i12, i13]) | (refine wk_intro (by kernel_rfl) ?_) | (refine vp_draw (id := 6) (l := []) (by kernel_rfl) ?_))
  · rw [decide_eq_false (fun h => hl (by rw [h]))]
    repeat (first | (simp only [go_sem, Nat.reduceEqDiff, Nat.reduceAdd, Nat.reduceSub, Nat.reduceMul, Nat.reduceLeDiff, Nat.reduceLT, reduceIte, reduceCtorEq, Nat.succ_ne_zero, elemsC, Int.reduceToNat, Nat.reducePow]) | (simp (disch := (first | omega | (simp only [AL, List.length_map]; omega))) only [AR, AL, ifT, ifF, take_all, List.length_cons, List.length_nil, Int.reduceToNat, Int.reducePow, Nat.reducePow]) | (refine wk_intro (by kernel_rfl) ?_) | (refine vp_draw (id := 6) (l := []) (by kernel_rfl) ?_))
theorem rat_Same {v w : SV} {q r : Rat} {L M : Nat} (hv : RatA v q L) (hw : RatA w r M) (hL : 1 ≤ L) (hM : 1 ≤ M) (h : L + M ≤ 8388608) : Go.Ev.Fn CX 25 [v, w] (.bool (decide (q = r))) := by
  have hnv := rat_Norm hv (by omega)
  have hnw := rat_Norm hw (by omega)
  obtain ⟨z1, z2⟩ := szR_of hv hL
  obtain ⟨y1, y2⟩ := szR_of hw hM
  have l1 := slices_Equal (lim q.num.natAbs) (lim r.num.natAbs) (by omega) (by omega)
  have l2 := slices_Equal (lim q.den) (lim r.den) (by omega) (by omega)
  have hbb := beq_bool (decide (q.num < 0)) (decide (r.num < 0))
  obtain ⟨s, n, d, rfl, -⟩ := hv
  obtain ⟨s', n', d', rfl, -⟩ := hw
  refine Go.Ev.Fn.intro (fn := Tryz.f25) (body := (Tryz.f25).body.get!) (by kernel_rfl) (by kernel_rfl) (by kernel_rfl) (fun _ => rfl) (Nat.le_of_ble_eq_true (by kernel_rfl)) ?_; unfold Tryz.f25; simp only [Option.get!_some]
  repeat (first | (simp only [go_sem, Nat.reduceEqDiff, Nat.reduceAdd, Nat.reduceSub, Nat.reduceMul, Nat.reduceLeDiff, Nat.reduceLT, reduceIte, reduceCtorEq, Nat.succ_ne_zero, elemsC, Int.reduceToNat, Nat.reducePow, hbb]) | (simp (disch := (first | omega | (simp only [AL, List.length_map]; omega))) only [AR, AL, ifT, ifF, take_all, List.length_cons, List.length_nil, Int.reduceToNat, Int.reducePow, Nat.reducePow, hbb]) | (refine wk_intro (by kernel_rfl) ?_) | (refine vp_draw (id := 1) (l := []) (by kernel_rfl) ?_) | (refine vf_of (by first | exact hnv | exact hnw) ?_))
  by_cases h1 : decide (q.num < 0) = decide (r.num < 0)
  · rw [decide_eq_true h1]
    by_cases h2 : lim q.num.natAbs = lim r.num.natAbs
    · rw [decide_eq_true h2] at l1
      repeat (first | (simp only [go_sem, Nat.reduceEqDiff, Nat.reduceAdd, Nat.reduceSub, Nat.reduceMul, Nat.reduceLeDiff, Nat.reduceLT, reduceIte, reduceCtorEq, Nat.succ_ne_zero, elemsC, Int.reduceToNat, Nat.reducePow]) | (simp (disch := (first | omega | (simp only [AL, List.length_map]; omega))) only [AR, AL, ifT, ifF, take_all, List.length_cons, List.length_nil, Int.reduceToNat, Int.reducePow, Nat.reducePow]) | (refine wk_intro (by kernel_rfl) ?_) | (refine vp_draw (id := 1) (l := []) (by kernel_rfl) ?_))
      have e : decide (lim q.den = lim r.den) = decide (q = r) := by
        by_cases h3 : lim q.den = lim r.den
        · rw [decide_eq_true h3, decide_eq_true (rv_eq h1 h2 h3)]
        · rw [decide_eq_false h3, decide_eq_false (fun e => h3 (by rw [e]))]
      rw [e] at l2
      repeat (first | (simp only [go_sem, Nat.reduceEqDiff, Nat.reduceAdd, Nat.reduceSub, Nat.reduceMul, Nat.reduceLeDiff, Nat.reduceLT, reduceIte, reduceCtorEq, Nat.succ_ne_zero, elemsC, Int.reduceToNat, Nat.reducePow]) | (simp (disch := (first | omega | (simp only [AL, List.length_map]; omega))) only [AR, AL, ifT, ifF, take_all, List.length_cons, List.length_nil, Int.reduceToNat, Int.reducePow, Nat.reducePow]) | (refine wk_intro (by kernel_rfl) ?_) | (refine vp_draw (id := 1) (l := []) (by kernel_rfl) ?_) | (refine vf_of (by first | exact l1 | exact l2) ?_))
    · rw [decide_eq_false h2] at l1
      have hne : q ≠ r := fun e => h2 (by rw [e])
      rw [decide_eq_false hne]
      repeat (first | (simp only [go_sem, Nat.reduceEqDiff, Nat.reduceAdd, Nat.reduceSub, Nat.reduceMul, Nat.reduceLeDiff, Nat.reduceLT, reduceIte, reduceCtorEq, Nat.succ_ne_zero, elemsC, Int.reduceToNat, Nat.reducePow]) | (simp (disch := (first | omega | (simp only [AL, List.length_map]; omega))) only [AR, AL, ifT, ifF, take_all, List.length_cons, List.length_nil, Int.reduceToNat, Int.reducePow, Nat.reducePow]) | (refine wk_intro (by kernel_rfl) ?_) | (refine vp_draw (id := 1) (l := []) (by kernel_rfl) ?_) | (refine vf_of (by first | exact l1) ?_))
  · have hne : q ≠ r := fun e => h1 (by rw [e])
    rw [decide_eq_false h1, decide_eq_false hne]
    repeat (first | (simp only [go_sem, Nat.reduceEqDiff, Nat.reduceAdd, Nat.reduceSub, Nat.reduceMul, Nat.reduceLeDiff, Nat.reduceLT, reduceIte, reduceCtorEq, Nat.succ_ne_zero, elemsC, Int.reduceToNat, Nat.reducePow]) | (simp (disch := (first | omega | (simp only [AL, List.length_map]; omega))) only [AR, AL, ifT, ifF, take_all, List.length_cons, List.length_nil, Int.reduceToNat, Int.reducePow, Nat.reducePow]) | (refine wk_intro (by kernel_rfl) ?_) | (refine vp_draw (id := 1) (l := []) (by kernel_rfl) ?_))
theorem neg_num {x : Rat} : decide (x.num < 0) = decide (x < 0) := by
  have h := Rat.num_nonneg (q := x)
  refine decide_eq_decide.2 ⟨fun g => ?_, fun g => ?_⟩
  · have : ¬ 0 ≤ x := fun k => absurd (h.2 k) (by omega)
    grind
  · rcases Int.lt_or_le x.num 0 with k | k
    · exact k
    · exact absurd (h.1 k) (by grind)
section
variable {v : SV} {x : Rat} {A B p L : Nat}
theorem erv {x : Rat} (h : decide (x.num < 0) = false) : rv x = ratV false (lim x.num.natAbs) (lim x.den) := by show ratV (decide (x.num < 0)) _ _ = _; rw [h]
theorem incb_I_out {a b : Int} {pI : Int} (hv : RatA v x L) (hL1 : 1 ≤ L) (hL : L ≤ 3) (ha : 1 ≤ a ∧ a ≤ 256) (hb : 1 ≤ b ∧ b ≤ 256) (h : x < 0 ∨ 1 < x) : Go.Ev.Fn CX 8 [.int .i64 a, .int .i64 b, v, .int .i64 pI] (.tup [ballR 0 0, .bool false]) := by
  have n1 := rat_Norm hv (by omega)
  have zx := szR_of hv hL1
  have i1 := rat_Int 1 (by omega)
  have i0 := rat_Int 0 (by omega)
  have o := ball_Of (RatA_rv (int_szR (n := 0) (by omega))) (by omega)
  rw [show ((0 : Int) : Rat) = 0 from rfl] at i0 o
  have c1 := rat_Cmp (RatA_rv zx) (RatA_rv (int_szR (n := 1) (by omega))) hL1 (by omega) (by omega)
  rw [show ((1 : Int) : Rat) = 1 from rfl] at i1 c1
  have e1 : decide (cmpR x 1 > 0) = decide (1 < x) := cmpR_gt
  have en := neg_num (x := x)
  obtain ⟨s, n, d, rfl, -⟩ := hv
  by_cases hx : x < 0
  · rw [decide_eq_true hx] at en
    generalize cmpR x 1 = z at *
    refine Go.Ev.Fn.intro (fn := Tryz.f8) (body := (Tryz.f8).body.get!) (by kernel_rfl) (by kernel_rfl) (by kernel_rfl) (fun _ => rfl) (Nat.le_of_ble_eq_true (by kernel_rfl)) ?_; unfold Tryz.f8; simp only [Option.get!_some]
    repeat (first | (simp only [go_sem, Nat.reduceEqDiff, Nat.reduceAdd, Nat.reduceSub, Nat.reduceMul, Nat.reduceLeDiff, Nat.reduceLT, reduceIte, reduceCtorEq, Nat.succ_ne_zero, elemsC, Int.reduceToNat, Nat.reducePow, en]) | (simp (disch := (first | omega | (simp only [AL, List.length_map]; omega))) only [AR, AL, ifT, ifF, take_all, List.length_cons, List.length_nil, Int.reduceToNat, Int.reducePow, Nat.reducePow, en]) | (refine wk_intro (by kernel_rfl) ?_) | (refine vp_draw (id := 9) (l := []) (by kernel_rfl) ?_) | (refine vp_draw (id := 11) (l := []) (by kernel_rfl) ?_) | (refine vf_of (by first | exact n1 | exact i1 | exact c1 | exact i0 | exact o) ?_))
  · rw [decide_eq_false hx] at en
    rw [decide_eq_true (h.resolve_left hx)] at e1
    rw [erv en] at n1 c1
    generalize cmpR x 1 = z at *
    refine Go.Ev.Fn.intro (fn := Tryz.f8) (body := (Tryz.f8).body.get!) (by kernel_rfl) (by kernel_rfl) (by kernel_rfl) (fun _ => rfl) (Nat.le_of_ble_eq_true (by kernel_rfl)) ?_; unfold Tryz.f8; simp only [Option.get!_some]
    repeat (first | (simp only [go_sem, Nat.reduceEqDiff, Nat.reduceAdd, Nat.reduceSub, Nat.reduceMul, Nat.reduceLeDiff, Nat.reduceLT, reduceIte, reduceCtorEq, Nat.succ_ne_zero, elemsC, Int.reduceToNat, Nat.reducePow, en, e1]) | (simp (disch := (first | omega | (simp only [AL, List.length_map]; omega))) only [AR, AL, ifT, ifF, take_all, List.length_cons, List.length_nil, Int.reduceToNat, Int.reducePow, Nat.reducePow, en, e1]) | (refine wk_intro (by kernel_rfl) ?_) | (refine vp_draw (id := 9) (l := []) (by kernel_rfl) ?_) | (refine vp_draw (id := 11) (l := []) (by kernel_rfl) ?_) | (refine vf_of (by first | exact n1 | exact i1 | exact c1 | exact i0 | exact o) ?_))
theorem incb_I_ends {a b : Int} {pI : Int} (hv : RatA v x L) (hL1 : 1 ≤ L) (hL : L ≤ 3) (ha : 1 ≤ a ∧ a ≤ 256) (hb : 1 ≤ b ∧ b ≤ 256) (h : x = 0 ∨ x = 1) : Go.Ev.Fn CX 8 [.int .i64 a, .int .i64 b, v, .int .i64 pI] (.tup [ballR x x, .bool true]) := by
  have n1 := rat_Norm hv (by omega)
  have zx := szR_of hv hL1
  have i1 := rat_Int 1 (by omega)
  have o := ball_Of (RatA_rv zx) (by omega)
  have c1 := rat_Cmp (RatA_rv zx) (RatA_rv (int_szR (n := 1) (by omega))) hL1 (by omega) (by omega)
  have zr := rat_Zero (RatA_rv zx) hL1 (by omega)
  have sm := rat_Same (RatA_rv zx) (RatA_rv (int_szR (n := 1) (by omega))) hL1 (by omega) (by omega)
  rw [show ((1 : Int) : Rat) = 1 from rfl] at i1 c1 sm
  have e1 : decide (cmpR x 1 > 0) = false := by rw [cmpR_gt]; exact decide_eq_false (by rcases h with rfl | rfl <;> decide +kernel)
  have en : decide (x.num < 0) = false := by rw [neg_num]; exact decide_eq_false (by rcases h with rfl | rfl <;> decide +kernel)
  rw [erv en] at n1 c1 zr sm o
  obtain ⟨s, n, d, rfl, -⟩ := hv
  generalize cmpR x 1 = z at *
  by_cases hx : x = 0
  · rw [decide_eq_true hx] at zr
    clear hx h
    refine Go.Ev.Fn.intro (fn := Tryz.f8) (body := (Tryz.f8).body.get!) (by kernel_rfl) (by kernel_rfl) (by kernel_rfl) (fun _ => rfl) (Nat.le_of_ble_eq_true (by kernel_rfl)) ?_; unfold Tryz.f8; simp only [Option.get!_some]
    repeat (first | (simp only [go_sem, Nat.reduceEqDiff, Nat.reduceAdd, Nat.reduceSub, Nat.reduceMul, Nat.reduceLeDiff, Nat.reduceLT, reduceIte, reduceCtorEq, Nat.succ_ne_zero, elemsC, Int.reduceToNat, Nat.reducePow, en, e1]) | (simp (disch := (first | omega | (simp only [AL, List.length_map]; omega))) only [AR, AL, ifT, ifF, take_all, List.length_cons, List.length_nil, Int.reduceToNat, Int.reducePow, Nat.reducePow, en, e1]) | (refine wk_intro (by kernel_rfl) ?_) | (refine vp_draw (id := 9) (l := []) (by kernel_rfl) ?_) | (refine vp_draw (id := 11) (l := []) (by kernel_rfl) ?_) | (refine vf_of (by first | exact n1 | exact i1 | exact c1 | exact zr | exact o) ?_))
    show _ = SV.agg [.bool (decide (x.num < 0)), natV (lim x.num.natAbs), natV (lim x.den), .bool (decide (x.num < 0)), natV (lim x.num.natAbs), natV (lim x.den)]
    rw [en]
  · rw [decide_eq_false hx] at zr
    rw [decide_eq_true (h.resolve_left hx)] at sm
    clear hx h
    refine Go.Ev.Fn.intro (fn := Tryz.f8) (body := (Tryz.f8).body.get!) (by kernel_rfl) (by kernel_rfl) (by kernel_rfl) (fun _ => rfl) (Nat.le_of_ble_eq_true (by kernel_rfl)) ?_; unfold Tryz.f8; simp only [Option.get!_some]
    repeat (first | (simp only [go_sem, Nat.reduceEqDiff, Nat.reduceAdd, Nat.reduceSub, Nat.reduceMul, Nat.reduceLeDiff, Nat.reduceLT, reduceIte, reduceCtorEq, Nat.succ_ne_zero, elemsC, Int.reduceToNat, Nat.reducePow, en, e1]) | (simp (disch := (first | omega | (simp only [AL, List.length_map]; omega))) only [AR, AL, ifT, ifF, take_all, List.length_cons, List.length_nil, Int.reduceToNat, Int.reducePow, Nat.reducePow, en, e1]) | (refine wk_intro (by kernel_rfl) ?_) | (refine vp_draw (id := 9) (l := []) (by kernel_rfl) ?_) | (refine vp_draw (id := 11) (l := []) (by kernel_rfl) ?_) | (refine vf_of (by first | exact n1 | exact i1 | exact c1 | exact zr | exact sm | exact o) ?_))
    show _ = SV.agg [.bool (decide (x.num < 0)), natV (lim x.num.natAbs), natV (lim x.den), .bool (decide (x.num < 0)), natV (lim x.num.natAbs), natV (lim x.den)]
    rw [en]
set_option maxHeartbeats 1000000 in
theorem incb_I_low {A' B' K : Nat} (hv : RatA v x L) (hL1 : 1 ≤ L) (hL : L ≤ 3) (hA : 1 ≤ A) (hB : 1 ≤ B) (hAB : A + B ≤ 10) (hp : p ≤ 60) (h0 : 0 < x) (h1 : x + x ≤ 1)
    (hg : rowGo (p + 300) (unN x (p + 300)) (unN x (p + 300) + 1) (2 * A) (2 * B) 2201 0 (fsN x A B (p + 300)).1 (fsN x A B (p + 300)).2 (fsN x A B (p + 300)).1 (fsN x A B (p + 300)).2 = some (A', B', K)) (hl : (lim A').length ≤ 100 ∧ (lim B').length ≤ 100) :
    Go.Ev.Fn CX 8 [.int .i64 (2 * (A : Int)), .int .i64 (2 * (B : Int)), v, .int .i64 (p : Int)] (.tup [ballR (mkRat ((A' / 2 ^ (p + 300 - (p + 2)) : Nat) : Int) (2 ^ (p + 2))) (mkRat ((B' / 2 ^ (p + 300 - (p + 2)) + 1 : Nat) : Int) (2 ^ (p + 2))), .bool true]) := by
  have n1 := rat_Norm hv (by omega)
  have zx := szR_of hv hL1
  have i1 := rat_Int 1 (by omega)
  have c1 := rat_Cmp (RatA_rv zx) (RatA_rv (int_szR (n := 1) (by omega))) hL1 (by omega) (by omega)
  have zr := rat_Zero (RatA_rv zx) hL1 (by omega)
  rw [decide_eq_false (by clear hg; grind)] at zr
  have sm := rat_Same (RatA_rv zx) (RatA_rv (int_szR (n := 1) (by omega))) hL1 (by omega) (by omega)
  have ad := rat_Add (RatA_rv zx) (RatA_rv zx) hL1 hL1 (by omega)
  have c2 := rat_Cmp (RatA_rv (szR_add zx zx hL1)) (RatA_rv (int_szR (n := 1) (by omega))) (by omega) (by omega) (by omega)
  rw [show ((1 : Int) : Rat) = 1 from rfl] at i1 c1 sm c2
  rw [decide_eq_false (show ¬ x = 1 by clear hg; grind)] at sm
  have e1 : decide (cmpR x 1 > 0) = false := by rw [cmpR_gt]; exact decide_eq_false (by clear hg; grind)
  have e2 : decide (cmpR (x + x) 1 ≤ 0) = true := by rw [cmpR_le]; exact decide_eq_true h1
  have en : decide (x.num < 0) = false := by rw [neg_num]; exact decide_eq_false (by clear hg; grind)
  have rw1 := incb_row (w := p + 300) hA hB hAB zx hL1 hL (show 0 ≤ x by clear hg; grind) h1 (by omega) (by omega) hg
  have td := fix_Told (a := A') (b := B') (w := p + 300) (p := p + 2) (by omega) (by omega) (by omega) (by omega)
  have x1 : (if (0 : Int) > (p : Int) then (0 : Int) else (p : Int)) = (p : Int) := if_neg (by omega)
  have x2 : (if (200 : Int) < (p : Int) then (200 : Int) else (p : Int)) = (p : Int) := if_neg (by omega)
  rw [show ((p + 300 : Nat) : Int) = (p : Int) + 300 from rfl] at rw1 td
  rw [show ((p + 2 : Nat) : Int) = (p : Int) + 2 from rfl] at td
  generalize mkRat ((A' / 2 ^ (p + 300 - (p + 2)) : Nat) : Int) (2 ^ (p + 2)) = q1 at *
  generalize mkRat ((B' / 2 ^ (p + 300 - (p + 2)) + 1 : Nat) : Int) (2 ^ (p + 2)) = q2 at *
  rw [erv en] at n1 c1 zr sm ad rw1
  obtain ⟨s, n, d, rfl, -⟩ := hv
  clear hg h0 h1
  generalize cmpR x 1 = z at *
  generalize x + x = xx at *
  generalize cmpR xx 1 = z2 at *
  refine Go.Ev.Fn.intro (fn := Tryz.f8) (body := (Tryz.f8).body.get!) (by kernel_rfl) (by kernel_rfl) (by kernel_rfl) (fun _ => rfl) (Nat.le_of_ble_eq_true (by kernel_rfl)) ?_; unfold Tryz.f8; simp only [Option.get!_some]
  repeat (first | (simp only [go_sem, Nat.reduceEqDiff, Nat.reduceAdd, Nat.reduceSub, Nat.reduceMul, Nat.reduceLeDiff, Nat.reduceLT, reduceIte, reduceCtorEq, Nat.succ_ne_zero, elemsC, Int.reduceToNat, Nat.reducePow, en, x1, x2, e1, e2]) | (simp (disch := (first | omega | (simp only [AL, List.length_map]; omega))) only [AR, AL, ifT, ifF, take_all, List.length_cons, List.length_nil, Int.reduceToNat, Int.reducePow, Nat.reducePow, en, x1, x2, e1, e2]) | (refine wk_intro (by kernel_rfl) ?_) | (refine vp_draw (id := 9) (l := []) (by kernel_rfl) ?_) | (refine vp_draw (id := 11) (l := []) (by kernel_rfl) ?_) | (refine vf_of (by first | exact n1 | exact i1 | exact c1 | exact zr | exact sm | exact ad | exact c2 | exact rw1 | exact td) ?_))
set_option maxHeartbeats 1000000 in
theorem incb_I_high {A' B' K : Nat} (hv : RatA v x L) (hL1 : 1 ≤ L) (hL : L ≤ 1) (hA : 1 ≤ A) (hB : 1 ≤ B) (hAB : A + B ≤ 10) (hp : p ≤ 60) (h0 : 1 < x + x) (h1 : x < 1)
    (hg : rowGo (p + 300) (unN (1 - x) (p + 300)) (unN (1 - x) (p + 300) + 1) (2 * B) (2 * A) 2201 0 (fsN (1 - x) B A (p + 300)).1 (fsN (1 - x) B A (p + 300)).2 (fsN (1 - x) B A (p + 300)).1 (fsN (1 - x) B A (p + 300)).2 = some (A', B', K)) (hl : (lim A').length ≤ 100 ∧ (lim B').length ≤ 100) :
    Go.Ev.Fn CX 8 [.int .i64 (2 * (A : Int)), .int .i64 (2 * (B : Int)), v, .int .i64 (p : Int)] (.tup [ballR (1 - mkRat ((B' / 2 ^ (p + 300 - (p + 2)) + 1 : Nat) : Int) (2 ^ (p + 2))) (1 - mkRat ((A' / 2 ^ (p + 300 - (p + 2)) : Nat) : Int) (2 ^ (p + 2))), .bool true]) := by
  have n1 := rat_Norm hv (by omega)
  have zx := szR_of hv hL1
  have i1 := rat_Int 1 (by omega)
  have c1 := rat_Cmp (RatA_rv zx) (RatA_rv (int_szR (n := 1) (by omega))) hL1 (by omega) (by omega)
  have zr := rat_Zero (RatA_rv zx) hL1 (by omega)
  rw [decide_eq_false (by clear hg; grind)] at zr
  have sm := rat_Same (RatA_rv zx) (RatA_rv (int_szR (n := 1) (by omega))) hL1 (by omega) (by omega)
  have ad := rat_Add (RatA_rv zx) (RatA_rv zx) hL1 hL1 (by omega)
  have c2 := rat_Cmp (RatA_rv (szR_add zx zx hL1)) (RatA_rv (int_szR (n := 1) (by omega))) (by omega) (by omega) (by omega)
  have b1 := ball_Of (RatA_rv (int_szR (n := 1) (by omega))) (by omega)
  have sb := rat_Sub (RatA_rv (int_szR (n := 1) (by omega))) (RatA_rv zx) (by omega) hL1 (by omega)
  have one1 : szR 1 1 := ⟨lim_len_lt (by decide +kernel), lim_len_lt (by decide +kernel)⟩
  have zy := szR_sub one1 zx (by omega)
  rw [show ((1 : Int) : Rat) = 1 from rfl] at i1 c1 sm c2 b1 sb
  rw [decide_eq_false (show ¬ x = 1 by clear hg; grind)] at sm
  have e1 : decide (cmpR x 1 > 0) = false := by rw [cmpR_gt]; exact decide_eq_false (by clear hg; grind)
  have e2 : decide (cmpR (x + x) 1 ≤ 0) = false := by rw [cmpR_le]; exact decide_eq_false (by clear hg; grind)
  have en : decide (x.num < 0) = false := by rw [neg_num]; exact decide_eq_false (by clear hg; grind)
  have rw1 := incb_row (w := p + 300) hB hA (by omega) zy (by omega) (by omega) (show 0 ≤ 1 - x by clear hg; grind) (by clear hg; grind) (by omega) (by omega) hg
  have td := fix_Told (a := A') (b := B') (w := p + 300) (p := p + 2) (by omega) (by omega) (by omega) (by omega)
  have l3 := lim_len_mono (Nat.div_le_self A' (2 ^ (p + 300 - (p + 2))))
  have l4 := lim_len_mono (Nat.div_le_self B' (2 ^ (p + 300 - (p + 2))))
  have l1 := lim_len1
  have l5 := lim_len_add (a := B' / 2 ^ (p + 300 - (p + 2))) (b := 1) (L := 100) (by omega) (by omega)
  have lp := lim_len_shl (a := 1) (n := p + 2)
  rw [Nat.one_mul] at lp
  have z1 := szR_mk (s := false) (n := A' / 2 ^ (p + 300 - (p + 2))) (d := 2 ^ (p + 2)) (L := 101) (by omega) (by omega) (by omega)
  have z2 := szR_mk (s := false) (n := B' / 2 ^ (p + 300 - (p + 2)) + 1) (d := 2 ^ (p + 2)) (L := 101) (by omega) (by omega) (by omega)
  rw [show sgn false (A' / 2 ^ (p + 300 - (p + 2))) = ((A' / 2 ^ (p + 300 - (p + 2)) : Nat) : Int) from rfl] at z1
  rw [show sgn false (B' / 2 ^ (p + 300 - (p + 2)) + 1) = ((B' / 2 ^ (p + 300 - (p + 2)) + 1 : Nat) : Int) from rfl] at z2
  have bs := ball_Sub (a := 1) (b := 1) (L := 101) (szR_mono one1 (by omega)) (szR_mono one1 (by omega)) z1 z2 (by omega) (by omega)
  have x1 : (if (0 : Int) > (p : Int) then (0 : Int) else (p : Int)) = (p : Int) := if_neg (by omega)
  have x2 : (if (200 : Int) < (p : Int) then (200 : Int) else (p : Int)) = (p : Int) := if_neg (by omega)
  rw [show ((p + 300 : Nat) : Int) = (p : Int) + 300 from rfl] at rw1 td
  rw [show ((p + 2 : Nat) : Int) = (p : Int) + 2 from rfl] at td
  generalize mkRat ((A' / 2 ^ (p + 300 - (p + 2)) : Nat) : Int) (2 ^ (p + 2)) = q1 at *
  generalize mkRat ((B' / 2 ^ (p + 300 - (p + 2)) + 1 : Nat) : Int) (2 ^ (p + 2)) = q2 at *
  generalize 1 - q2 = w1 at *
  generalize 1 - q1 = w2 at *
  rw [erv en] at n1 c1 zr sm ad sb
  obtain ⟨s, n, d, rfl, -⟩ := hv
  clear hg h0 h1
  generalize cmpR x 1 = z at *
  generalize x + x = xx at *
  generalize cmpR xx 1 = z2' at *
  generalize 1 - x = y at *
  refine Go.Ev.Fn.intro (fn := Tryz.f8) (body := (Tryz.f8).body.get!) (by kernel_rfl) (by kernel_rfl) (by kernel_rfl) (fun _ => rfl) (Nat.le_of_ble_eq_true (by kernel_rfl)) ?_; unfold Tryz.f8; simp only [Option.get!_some]
  repeat (first | (simp only [go_sem, Nat.reduceEqDiff, Nat.reduceAdd, Nat.reduceSub, Nat.reduceMul, Nat.reduceLeDiff, Nat.reduceLT, reduceIte, reduceCtorEq, Nat.succ_ne_zero, elemsC, Int.reduceToNat, Nat.reducePow, en, x1, x2, e1, e2]) | (simp (disch := (first | omega | (simp only [AL, List.length_map]; omega))) only [AR, AL, ifT, ifF, take_all, List.length_cons, List.length_nil, Int.reduceToNat, Int.reducePow, Nat.reducePow, en, x1, x2, e1, e2]) | (refine wk_intro (by kernel_rfl) ?_) | (refine vp_draw (id := 9) (l := []) (by kernel_rfl) ?_) | (refine vp_draw (id := 11) (l := []) (by kernel_rfl) ?_) | (refine vf_of (by first | exact n1 | exact i1 | exact c1 | exact zr | exact sm | exact ad | exact c2 | exact b1 | exact sb | exact rw1 | exact td | exact bs) ?_))
end
end Go.Proofs.YtigiblhmhmgagaaGreat

/- incb.I of any halves, in the evaluator. -/
namespace Go.Proofs.YtigiblhmhmgagaaGreat
set_option linter.unusedSimpArgs false
set_option linter.unusedVariables false
set_option maxRecDepth 8000
open Go.Ev
set_option linter.unusedVariables false
theorem incb_I_bad {v : SV} {x : Rat} {a b pI : Int} {L : Nat} (hv : RatA v x L) (hL1 : 1 ≤ L) (hL : L ≤ 250) (ha : -9223372036854775808 ≤ a ∧ a ≤ 256) (hb : -9223372036854775808 ≤ b ∧ b ≤ 256) (h : a < 1 ∨ b < 1 ∨ x < 0 ∨ 1 < x) : Go.Ev.Fn CX 8 [.int .i64 a, .int .i64 b, v, .int .i64 pI] (.tup [ballR 0 0, .bool false]) := by
  have n1 := rat_Norm hv (by omega)
  have zx := szR_of hv hL1
  have i1 := rat_Int 1 (by omega)
  have i0 := rat_Int 0 (by omega)
  have o := ball_Of (RatA_rv (int_szR (n := 0) (by omega))) (by omega)
  rw [show ((0 : Int) : Rat) = 0 from rfl] at i0 o
  have c1 := rat_Cmp (RatA_rv zx) (RatA_rv (int_szR (n := 1) (by omega))) hL1 (by omega) (by omega)
  rw [show ((1 : Int) : Rat) = 1 from rfl] at i1 c1
  have e1 : decide (cmpR x 1 > 0) = decide (1 < x) := cmpR_gt
  have en := neg_num (x := x)
  obtain ⟨s, n, d, rfl, -⟩ := hv
  generalize cmpR x 1 = z at *
  by_cases g1 : a < 1
  · clear h e1 en
    refine Go.Ev.Fn.intro (fn := Tryz.f8) (body := (Tryz.f8).body.get!) (by kernel_rfl) (by kernel_rfl) (by kernel_rfl) (fun _ => rfl) (Nat.le_of_ble_eq_true (by kernel_rfl)) ?_; unfold Tryz.f8; simp only [Option.get!_some]
    repeat (first | (simp only [go_sem, Nat.reduceEqDiff, Nat.reduceAdd, Nat.reduceSub, Nat.reduceMul, Nat.reduceLeDiff, Nat.reduceLT, reduceIte, reduceCtorEq, Nat.succ_ne_zero, elemsC, Int.reduceToNat, Nat.reducePow]) | (simp (disch := (first | omega | (simp only [AL, List.length_map]; omega))) only [AR, AL, ifT, ifF, take_all, List.length_cons, List.length_nil, Int.reduceToNat, Int.reducePow, Nat.reducePow]) | (refine wk_intro (by kernel_rfl) ?_) | (refine vp_draw (id := 9) (l := []) (by kernel_rfl) ?_) | (refine vp_draw (id := 11) (l := []) (by kernel_rfl) ?_) | (refine vf_of (by first | exact n1 | exact i1 | exact i0 | exact o) ?_))
  by_cases g2 : b < 1
  · clear h e1 en
    refine Go.Ev.Fn.intro (fn := Tryz.f8) (body := (Tryz.f8).body.get!) (by kernel_rfl) (by kernel_rfl) (by kernel_rfl) (fun _ => rfl) (Nat.le_of_ble_eq_true (by kernel_rfl)) ?_; unfold Tryz.f8; simp only [Option.get!_some]
    repeat (first | (simp only [go_sem, Nat.reduceEqDiff, Nat.reduceAdd, Nat.reduceSub, Nat.reduceMul, Nat.reduceLeDiff, Nat.reduceLT, reduceIte, reduceCtorEq, Nat.succ_ne_zero, elemsC, Int.reduceToNat, Nat.reducePow]) | (simp (disch := (first | omega | (simp only [AL, List.length_map]; omega))) only [AR, AL, ifT, ifF, take_all, List.length_cons, List.length_nil, Int.reduceToNat, Int.reducePow, Nat.reducePow]) | (refine wk_intro (by kernel_rfl) ?_) | (refine vp_draw (id := 9) (l := []) (by kernel_rfl) ?_) | (refine vp_draw (id := 11) (l := []) (by kernel_rfl) ?_) | (refine vf_of (by first | exact n1 | exact i1 | exact i0 | exact o) ?_))
  by_cases hx : x < 0
  · rw [decide_eq_true hx] at en
    clear h e1
    refine Go.Ev.Fn.intro (fn := Tryz.f8) (body := (Tryz.f8).body.get!) (by kernel_rfl) (by kernel_rfl) (by kernel_rfl) (fun _ => rfl) (Nat.le_of_ble_eq_true (by kernel_rfl)) ?_; unfold Tryz.f8; simp only [Option.get!_some]
    repeat (first | (simp only [go_sem, Nat.reduceEqDiff, Nat.reduceAdd, Nat.reduceSub, Nat.reduceMul, Nat.reduceLeDiff, Nat.reduceLT, reduceIte, reduceCtorEq, Nat.succ_ne_zero, elemsC, Int.reduceToNat, Nat.reducePow, en]) | (simp (disch := (first | omega | (simp only [AL, List.length_map]; omega))) only [AR, AL, ifT, ifF, take_all, List.length_cons, List.length_nil, Int.reduceToNat, Int.reducePow, Nat.reducePow, en]) | (refine wk_intro (by kernel_rfl) ?_) | (refine vp_draw (id := 9) (l := []) (by kernel_rfl) ?_) | (refine vp_draw (id := 11) (l := []) (by kernel_rfl) ?_) | (refine vf_of (by first | exact n1 | exact i1 | exact i0 | exact o) ?_))
  · rw [decide_eq_false hx] at en
    rw [decide_eq_true ((h.resolve_left g1).resolve_left g2 |>.resolve_left hx)] at e1
    rw [erv en] at n1 c1
    clear h
    refine Go.Ev.Fn.intro (fn := Tryz.f8) (body := (Tryz.f8).body.get!) (by kernel_rfl) (by kernel_rfl) (by kernel_rfl) (fun _ => rfl) (Nat.le_of_ble_eq_true (by kernel_rfl)) ?_; unfold Tryz.f8; simp only [Option.get!_some]
    repeat (first | (simp only [go_sem, Nat.reduceEqDiff, Nat.reduceAdd, Nat.reduceSub, Nat.reduceMul, Nat.reduceLeDiff, Nat.reduceLT, reduceIte, reduceCtorEq, Nat.succ_ne_zero, elemsC, Int.reduceToNat, Nat.reducePow, en, e1]) | (simp (disch := (first | omega | (simp only [AL, List.length_map]; omega))) only [AR, AL, ifT, ifF, take_all, List.length_cons, List.length_nil, Int.reduceToNat, Int.reducePow, Nat.reducePow, en, e1]) | (refine wk_intro (by kernel_rfl) ?_) | (refine vp_draw (id := 9) (l := []) (by kernel_rfl) ?_) | (refine vp_draw (id := 11) (l := []) (by kernel_rfl) ?_) | (refine vf_of (by first | exact n1 | exact i1 | exact c1 | exact i0 | exact o) ?_))
section
variable {v : SV} {x : Rat} {a b p L : Nat}
/-- What is told of so many units. -/
abbrev toldLo (A p : Nat) : Rat := mkRat ((A / 2 ^ (p + 300 - (p + 2)) : Nat) : Int) (2 ^ (p + 2))
abbrev toldHi (B p : Nat) : Rat := mkRat ((B / 2 ^ (p + 300 - (p + 2)) + 1 : Nat) : Int) (2 ^ (p + 2))
theorem told_sz {A B : Nat} (hp : p ≤ 80) (hA : (lim A).length ≤ 100) (hB : (lim B).length ≤ 100) : szR (toldLo A p) 101 ∧ szR (toldHi B p) 101 := by
  have l3 := lim_len_mono (Nat.div_le_self A (2 ^ (p + 300 - (p + 2))))
  have l4 := lim_len_mono (Nat.div_le_self B (2 ^ (p + 300 - (p + 2))))
  have l1 := lim_len1
  have l5 := lim_len_add (a := B / 2 ^ (p + 300 - (p + 2))) (b := 1) (L := 100) (by omega) (by omega)
  have lp := lim_len_shl (a := 1) (n := p + 2)
  rw [Nat.one_mul] at lp
  exact ⟨szR_mk (s := false) (n := A / 2 ^ (p + 300 - (p + 2))) (d := 2 ^ (p + 2)) (L := 101) (by omega) (by omega) (by omega), szR_mk (s := false) (n := B / 2 ^ (p + 300 - (p + 2)) + 1) (d := 2 ^ (p + 2)) (L := 101) (by omega) (by omega) (by omega)⟩
set_option maxHeartbeats 1000000 in
theorem incb_I_loP {A' B' : Nat} {pI : Int} (hpI : (pI ≤ 0 ∧ p = 0) ∨ pI = (p : Int)) (hv : RatA v x L) (hL1 : 1 ≤ L) (hL : L ≤ 200) (ha : 1 ≤ a) (ha2 : a ≤ 20) (hb : 1 ≤ b) (hb2 : b ≤ 20) (hp : p ≤ 80) (h0 : 0 < x) (h1 : x + x ≤ 1)
    (rw1 : Go.Ev.Fn CX 28 [.int .i64 (a : Int), .int .i64 (b : Int), rv x, .int .i64 ((p + 300 : Nat) : Int)] (spanV A' B')) (hl : (lim A').length ≤ 100 ∧ (lim B').length ≤ 100) :
    Go.Ev.Fn CX 8 [.int .i64 (a : Int), .int .i64 (b : Int), v, .int .i64 pI] (.tup [ballR (toldLo A' p) (toldHi B' p), .bool true]) := by
  have n1 := rat_Norm hv (by omega)
  have zx := szR_of hv hL1
  have i1 := rat_Int 1 (by omega)
  have c1 := rat_Cmp (RatA_rv zx) (RatA_rv (int_szR (n := 1) (by omega))) hL1 (by omega) (by omega)
  have zr := rat_Zero (RatA_rv zx) hL1 (by omega)
  rw [decide_eq_false (by grind)] at zr
  have sm := rat_Same (RatA_rv zx) (RatA_rv (int_szR (n := 1) (by omega))) hL1 (by omega) (by omega)
  have ad := rat_Add (RatA_rv zx) (RatA_rv zx) hL1 hL1 (by omega)
  have c2 := rat_Cmp (RatA_rv (szR_add zx zx hL1)) (RatA_rv (int_szR (n := 1) (by omega))) (by omega) (by omega) (by omega)
  rw [show ((1 : Int) : Rat) = 1 from rfl] at i1 c1 sm c2
  rw [decide_eq_false (show ¬ x = 1 by grind)] at sm
  have e1 : decide (cmpR x 1 > 0) = false := by rw [cmpR_gt]; exact decide_eq_false (by grind)
  have e2 : decide (cmpR (x + x) 1 ≤ 0) = true := by rw [cmpR_le]; exact decide_eq_true h1
  have en : decide (x.num < 0) = false := by rw [neg_num]; exact decide_eq_false (by grind)
  have td := fix_Told (a := A') (b := B') (w := p + 300) (p := p + 2) (by omega) (by omega) (by omega) (by omega)
  have x1 : (if (0 : Int) > pI then (0 : Int) else pI) = (p : Int) := by split <;> omega
  have x2 : (if (200 : Int) < (p : Int) then (200 : Int) else (p : Int)) = (p : Int) := if_neg (by omega)
  rw [show ((p + 300 : Nat) : Int) = (p : Int) + 300 from rfl] at rw1 td
  rw [show ((p + 2 : Nat) : Int) = (p : Int) + 2 from rfl] at td
  unfold toldLo toldHi
  generalize mkRat ((A' / 2 ^ (p + 300 - (p + 2)) : Nat) : Int) (2 ^ (p + 2)) = q1 at *
  generalize mkRat ((B' / 2 ^ (p + 300 - (p + 2)) + 1 : Nat) : Int) (2 ^ (p + 2)) = q2 at *
  rw [erv en] at n1 c1 zr sm ad rw1
  obtain ⟨s, n, d, rfl, -⟩ := hv
  clear h0 h1
  generalize cmpR x 1 = z at *
  generalize x + x = xx at *
  generalize cmpR xx 1 = z2 at *
  refine Go.Ev.Fn.intro (fn := Tryz.f8) (body := (Tryz.f8).body.get!) (by kernel_rfl) (by kernel_rfl) (by kernel_rfl) (fun _ => rfl) (Nat.le_of_ble_eq_true (by kernel_rfl)) ?_; unfold Tryz.f8; simp only [Option.get!_some]
  repeat (first | (simp only [go_sem, Nat.reduceEqDiff, Nat.reduceAdd, Nat.reduceSub, Nat.reduceMul, Nat.reduceLeDiff, Nat.reduceLT, reduceIte, reduceCtorEq, Nat.succ_ne_zero, elemsC, Int.reduceToNat, Nat.reducePow, en, x1, x2, e1, e2]) | (simp (disch := (first | omega | (simp only [AL, List.length_map]; omega))) only [AR, AL, ifT, ifF, take_all, List.length_cons, List.length_nil, Int.reduceToNat, Int.reducePow, Nat.reducePow, en, x1, x2, e1, e2]) | (refine wk_intro (by kernel_rfl) ?_) | (refine vp_draw (id := 9) (l := []) (by kernel_rfl) ?_) | (refine vp_draw (id := 11) (l := []) (by kernel_rfl) ?_) | (refine vf_of (by first | exact n1 | exact i1 | exact c1 | exact zr | exact sm | exact ad | exact c2 | exact rw1 | exact td) ?_))
theorem incb_I_lo {A' B' : Nat} (hv : RatA v x L) (hL1 : 1 ≤ L) (hL : L ≤ 200) (ha : 1 ≤ a) (ha2 : a ≤ 20) (hb : 1 ≤ b) (hb2 : b ≤ 20) (hp : p ≤ 80) (h0 : 0 < x) (h1 : x + x ≤ 1)
    (rw1 : Go.Ev.Fn CX 28 [.int .i64 (a : Int), .int .i64 (b : Int), rv x, .int .i64 ((p + 300 : Nat) : Int)] (spanV A' B')) (hl : (lim A').length ≤ 100 ∧ (lim B').length ≤ 100) :
    Go.Ev.Fn CX 8 [.int .i64 (a : Int), .int .i64 (b : Int), v, .int .i64 (p : Int)] (.tup [ballR (toldLo A' p) (toldHi B' p), .bool true]) := incb_I_loP (.inr rfl) hv hL1 hL ha ha2 hb hb2 hp h0 h1 rw1 hl
set_option maxHeartbeats 1000000 in
theorem incb_I_hiP {A' B' : Nat} {pI : Int} (hpI : (pI ≤ 0 ∧ p = 0) ∨ pI = (p : Int)) (hv : RatA v x L) (hL1 : 1 ≤ L) (hL : L ≤ 200) (ha : 1 ≤ a) (ha2 : a ≤ 20) (hb : 1 ≤ b) (hb2 : b ≤ 20) (hp : p ≤ 80) (h0 : 1 < x + x) (h1 : x < 1)
    (rw1 : Go.Ev.Fn CX 28 [.int .i64 (b : Int), .int .i64 (a : Int), rv (1 - x), .int .i64 ((p + 300 : Nat) : Int)] (spanV A' B')) (hl : (lim A').length ≤ 100 ∧ (lim B').length ≤ 100) :
    Go.Ev.Fn CX 8 [.int .i64 (a : Int), .int .i64 (b : Int), v, .int .i64 pI] (.tup [ballR (1 - toldHi B' p) (1 - toldLo A' p), .bool true]) := by
  have n1 := rat_Norm hv (by omega)
  have zx := szR_of hv hL1
  have i1 := rat_Int 1 (by omega)
  have c1 := rat_Cmp (RatA_rv zx) (RatA_rv (int_szR (n := 1) (by omega))) hL1 (by omega) (by omega)
  have zr := rat_Zero (RatA_rv zx) hL1 (by omega)
  rw [decide_eq_false (by grind)] at zr
  have sm := rat_Same (RatA_rv zx) (RatA_rv (int_szR (n := 1) (by omega))) hL1 (by omega) (by omega)
  have ad := rat_Add (RatA_rv zx) (RatA_rv zx) hL1 hL1 (by omega)
  have c2 := rat_Cmp (RatA_rv (szR_add zx zx hL1)) (RatA_rv (int_szR (n := 1) (by omega))) (by omega) (by omega) (by omega)
  have b1 := ball_Of (RatA_rv (int_szR (n := 1) (by omega))) (by omega)
  have sb := rat_Sub (RatA_rv (int_szR (n := 1) (by omega))) (RatA_rv zx) (by omega) hL1 (by omega)
  have one1 : szR 1 1 := ⟨lim_len_lt (by decide +kernel), lim_len_lt (by decide +kernel)⟩
  rw [show ((1 : Int) : Rat) = 1 from rfl] at i1 c1 sm c2 b1 sb
  rw [decide_eq_false (show ¬ x = 1 by grind)] at sm
  have e1 : decide (cmpR x 1 > 0) = false := by rw [cmpR_gt]; exact decide_eq_false (by grind)
  have e2 : decide (cmpR (x + x) 1 ≤ 0) = false := by rw [cmpR_le]; exact decide_eq_false (by grind)
  have en : decide (x.num < 0) = false := by rw [neg_num]; exact decide_eq_false (by grind)
  have td := fix_Told (a := A') (b := B') (w := p + 300) (p := p + 2) (by omega) (by omega) (by omega) (by omega)
  obtain ⟨z1, z2⟩ := told_sz (p := p) hp hl.1 hl.2
  have bs := ball_Sub (a := 1) (b := 1) (L := 101) (szR_mono one1 (by omega)) (szR_mono one1 (by omega)) z1 z2 (by omega) (by omega)
  have x1 : (if (0 : Int) > pI then (0 : Int) else pI) = (p : Int) := by split <;> omega
  have x2 : (if (200 : Int) < (p : Int) then (200 : Int) else (p : Int)) = (p : Int) := if_neg (by omega)
  rw [show ((p + 300 : Nat) : Int) = (p : Int) + 300 from rfl] at rw1 td
  rw [show ((p + 2 : Nat) : Int) = (p : Int) + 2 from rfl] at td
  unfold toldLo toldHi at *
  generalize mkRat ((A' / 2 ^ (p + 300 - (p + 2)) : Nat) : Int) (2 ^ (p + 2)) = q1 at *
  generalize mkRat ((B' / 2 ^ (p + 300 - (p + 2)) + 1 : Nat) : Int) (2 ^ (p + 2)) = q2 at *
  generalize 1 - q2 = w1 at *
  generalize 1 - q1 = w2 at *
  rw [erv en] at n1 c1 zr sm ad sb
  obtain ⟨s, n, d, rfl, -⟩ := hv
  clear h0 h1
  generalize cmpR x 1 = z at *
  generalize x + x = xx at *
  generalize cmpR xx 1 = z2' at *
  generalize 1 - x = y at *
  refine Go.Ev.Fn.intro (fn := Tryz.f8) (body := (Tryz.f8).body.get!) (by kernel_rfl) (by kernel_rfl) (by kernel_rfl) (fun _ => rfl) (Nat.le_of_ble_eq_true (by kernel_rfl)) ?_; unfold Tryz.f8; simp only [Option.get!_some]
  repeat (first | (simp only [go_sem, Nat.reduceEqDiff, Nat.reduceAdd, Nat.reduceSub, Nat.reduceMul, Nat.reduceLeDiff, Nat.reduceLT, reduceIte, reduceCtorEq, Nat.succ_ne_zero, elemsC, Int.reduceToNat, Nat.reducePow, en, x1, x2, e1, e2]) | (simp (disch := (first | omega | (simp only [AL, List.length_map]; omega))) only [AR, AL, ifT, ifF, take_all, List.length_cons, List.length_nil, Int.reduceToNat, Int.reducePow, Nat.reducePow, en, x1, x2, e1, e2]) | (refine wk_intro (by kernel_rfl) ?_) | (refine vp_draw (id := 9) (l := []) (by kernel_rfl) ?_) | (refine vp_draw (id := 11) (l := []) (by kernel_rfl) ?_) | (refine vf_of (by first | exact n1 | exact i1 | exact c1 | exact zr | exact sm | exact ad | exact c2 | exact b1 | exact sb | exact rw1 | exact td | exact bs) ?_))
theorem incb_I_hi {A' B' : Nat} (hv : RatA v x L) (hL1 : 1 ≤ L) (hL : L ≤ 200) (ha : 1 ≤ a) (ha2 : a ≤ 20) (hb : 1 ≤ b) (hb2 : b ≤ 20) (hp : p ≤ 80) (h0 : 1 < x + x) (h1 : x < 1)
    (rw1 : Go.Ev.Fn CX 28 [.int .i64 (b : Int), .int .i64 (a : Int), rv (1 - x), .int .i64 ((p + 300 : Nat) : Int)] (spanV A' B')) (hl : (lim A').length ≤ 100 ∧ (lim B').length ≤ 100) :
    Go.Ev.Fn CX 8 [.int .i64 (a : Int), .int .i64 (b : Int), v, .int .i64 (p : Int)] (.tup [ballR (1 - toldHi B' p) (1 - toldLo A' p), .bool true]) := incb_I_hiP (.inr rfl) hv hL1 hL ha ha2 hb hb2 hp h0 h1 rw1 hl
end
end Go.Proofs.YtigiblhmhmgagaaGreat

/- vernierref4.Add; vernierref12.I outside; vernierlaw12.big, in the evaluator. -/
namespace Go.Proofs.YtigiblhmhmgagaaGreat
set_option linter.unusedSimpArgs false
set_option linter.unusedVariables false
set_option maxRecDepth 8000
open Go.Ev
set_option linter.unusedVariables false
theorem ref4_AddB {a b c d : Rat} {L M : Nat} (ha : szR a L) (hb : szR b L) (hc : szR c M) (hd : szR d M) (hL1 : 1 ≤ L) (hM1 : 1 ≤ M) (hL : L + M ≤ 100000) : Go.Ev.Fn CX 16 [ballR a b, ballR c d] (ballR (a + c) (b + d)) := by
  have s1 := ref2_Add (RatA_rv ha) (RatA_rv hc) hL1 hM1 (by omega)
  have s2 := ref2_Add (RatA_rv hb) (RatA_rv hd) hL1 hM1 (by omega)
  generalize a + c = x at *
  generalize b + d = y at *
  refine Go.Ev.Fn.intro (fn := Tryz.f16) (body := (Tryz.f16).body.get!) (by kernel_rfl) (by kernel_rfl) (by kernel_rfl) (fun _ => rfl) (Nat.le_of_ble_eq_true (by kernel_rfl)) ?_; unfold Tryz.f16; simp only [Option.get!_some]
  repeat (first | (simp only [go_sem, Nat.reduceEqDiff, Nat.reduceAdd, Nat.reduceSub, Nat.reduceMul, Nat.reduceLeDiff, Nat.reduceLT, reduceIte, reduceCtorEq, Nat.succ_ne_zero, elemsC, Int.reduceToNat, Nat.reducePow]) | (simp (disch := (first | omega | (simp only [AL, List.length_map]; omega))) only [AR, AL, ifT, ifF, take_all, List.length_cons, List.length_nil, Int.reduceToNat, Int.reducePow, Nat.reducePow]) | (refine wk_intro (by kernel_rfl) ?_) | (refine vp_draw (id := 1) (l := []) (by kernel_rfl) ?_) | (refine vf_of (by first | exact s1 | exact s2) ?_))
theorem law12_big (s : Bool) (n d : List Nat) (hn : n.length ≤ 9223372036854775807) (hd : d.length ≤ 9223372036854775807) : Go.Ev.Fn CX 6 [.sl 1 [.bool s, natV n, natV d]] (.bool (decide (3 < n.length) || decide (3 < d.length))) := by
  refine Go.Ev.Fn.intro (fn := Tryz.f6) (body := (Tryz.f6).body.get!) (by kernel_rfl) (by kernel_rfl) (by kernel_rfl) (fun _ => rfl) (Nat.le_of_ble_eq_true (by kernel_rfl)) ?_; unfold Tryz.f6; simp only [Option.get!_some]
  repeat (first | (simp only [go_sem, Nat.reduceEqDiff, Nat.reduceAdd, Nat.reduceSub, Nat.reduceMul, Nat.reduceLeDiff, Nat.reduceLT, reduceIte, reduceCtorEq, Nat.succ_ne_zero, elemsC, Int.reduceToNat, Nat.reducePow]) | (simp (disch := (first | omega | (simp only [AL, List.length_map]; omega))) only [AR, AL, ifT, ifF, take_all, List.length_cons, List.length_nil, Int.reduceToNat, Int.reducePow, Nat.reducePow]) | (refine wk_intro (by kernel_rfl) ?_))
  refine vp_loop_inv (fun st => st.tmp 0 = .sv (.sl 1 [.bool s, natV n, natV d]) ∧ ((st.tmp 3 = .sv (.int .i64 0)) ∨ (st.tmp 3 = .sv (.int .i64 1) ∧ n.length ≤ 3 ∧ d.length ≤ 3)))
    (fun st => match st.tmp 3 with | .sv (.int _ i) => 1 - i.toNat | _ => 0) ⟨rfl, .inl rfl⟩ ?_
  rintro st ⟨i0, i3 | ⟨i3, h1, h2⟩⟩
  · by_cases h1 : 3 < n.length
    · rw [decide_eq_true h1, Bool.true_or]
      repeat (first | (simp only [go_sem, Nat.reduceEqDiff, Nat.reduceAdd, Nat.reduceSub, Nat.reduceMul, Nat.reduceLeDiff, Nat.reduceLT, reduceIte, reduceCtorEq, Nat.succ_ne_zero, elemsC, Int.reduceToNat, Nat.reducePow, i0, i3]) | (simp (disch := (first | omega | (simp only [AL, List.length_map]; omega))) only [AR, AL, ifT, ifF, take_all, List.length_cons, List.length_nil, Int.reduceToNat, Int.reducePow, Nat.reducePow, i0, i3]) | (refine wk_intro (by kernel_rfl) ?_))
    · rw [decide_eq_false h1, Bool.false_or]
      by_cases h2 : 3 < d.length
      · rw [decide_eq_true h2]
        repeat (first | (simp only [go_sem, Nat.reduceEqDiff, Nat.reduceAdd, Nat.reduceSub, Nat.reduceMul, Nat.reduceLeDiff, Nat.reduceLT, reduceIte, reduceCtorEq, Nat.succ_ne_zero, elemsC, Int.reduceToNat, Nat.reducePow, i0, i3]) | (simp (disch := (first | omega | (simp only [AL, List.length_map]; omega))) only [AR, AL, ifT, ifF, take_all, List.length_cons, List.length_nil, Int.reduceToNat, Int.reducePow, Nat.reducePow, i0, i3]) | (refine wk_intro (by kernel_rfl) ?_))
      · rw [decide_eq_false h2]
        repeat (first | (simp only [go_sem, Nat.reduceEqDiff, Nat.reduceAdd, Nat.reduceSub, Nat.reduceMul, Nat.reduceLeDiff, Nat.reduceLT, reduceIte, reduceCtorEq, Nat.succ_ne_zero, elemsC, Int.reduceToNat, Nat.reducePow, i0, i3]) | (simp (disch := (first | omega | (simp only [AL, List.length_map]; omega))) only [AR, AL, ifT, ifF, take_all, List.length_cons, List.length_nil, Int.reduceToNat, Int.reducePow, Nat.reducePow, i0, i3]) | (refine wk_intro (by kernel_rfl) ?_))
        first | exact ⟨.inr ⟨rfl, by omega, by omega⟩, by decide⟩ | exact ⟨by omega, by omega⟩
  · rw [decide_eq_false (by omega), decide_eq_false (by omega), Bool.or_false]
    repeat (first | (simp only [go_sem, Nat.reduceEqDiff, Nat.reduceAdd, Nat.reduceSub, Nat.reduceMul, Nat.reduceLeDiff, Nat.reduceLT, reduceIte, reduceCtorEq, Nat.succ_ne_zero, elemsC, Int.reduceToNat, Nat.reducePow, i0, i3]) | (simp (disch := (first | omega | (simp only [AL, List.length_map]; omega))) only [AR, AL, ifT, ifF, take_all, List.length_cons, List.length_nil, Int.reduceToNat, Int.reducePow, Nat.reducePow, i0, i3]) | (refine wk_intro (by kernel_rfl) ?_))
theorem ref12_I_bad {v : SV} {x : Rat} {a b pI : Int} {L : Nat} (hv : RatA v x L) (hL1 : 1 ≤ L) (hL : L ≤ 10) (ha : -9223372036854775808 ≤ a ∧ a ≤ 256) (hb : -9223372036854775808 ≤ b ∧ b ≤ 256) (h : a < 1 ∨ b < 1 ∨ x < 0 ∨ 1 < x) : Go.Ev.Fn CX 9 [.int .i64 a, .int .i64 b, v, .int .i64 pI] (.tup [ballR 0 0, .bool false]) := by
  have zx := szR_of hv hL1
  have i1 := ref2_Int 1 (by omega)
  have i0 := ref2_Int 0 (by omega)
  have z0 : szR ((0 : Int) : Rat) 2 := int_szR (by omega)
  have z1 : szR ((1 : Int) : Rat) 2 := int_szR (by omega)
  have o := ref4_Of (RatA_rv z0) (by omega)
  have c0 := ref2_Cmp hv (RatA_rv z0) hL1 (by omega) (by omega)
  have c1 := ref2_Cmp hv (RatA_rv z1) hL1 (by omega) (by omega)
  rw [show ((0 : Int) : Rat) = 0 from rfl] at i0 o c0
  rw [show ((1 : Int) : Rat) = 1 from rfl] at i1 c1
  have e0 : decide (cmpR x 0 < 0) = decide (x < 0) := cmpR_lt
  have e1 : decide (cmpR x 1 > 0) = decide (1 < x) := cmpR_gt
  obtain ⟨s, n, d, rfl, -⟩ := hv
  generalize cmpR x 0 = y0 at *
  generalize cmpR x 1 = y1 at *
  by_cases g1 : a < 1
  · clear h e0 e1
    refine Go.Ev.Fn.intro (fn := Tryz.f9) (body := (Tryz.f9).body.get!) (by kernel_rfl) (by kernel_rfl) (by kernel_rfl) (fun _ => rfl) (Nat.le_of_ble_eq_true (by kernel_rfl)) ?_; unfold Tryz.f9; simp only [Option.get!_some]
    repeat (first | (simp only [go_sem, Nat.reduceEqDiff, Nat.reduceAdd, Nat.reduceSub, Nat.reduceMul, Nat.reduceLeDiff, Nat.reduceLT, reduceIte, reduceCtorEq, Nat.succ_ne_zero, elemsC, Int.reduceToNat, Nat.reducePow]) | (simp (disch := (first | omega | (simp only [AL, List.length_map]; omega))) only [AR, AL, ifT, ifF, take_all, List.length_cons, List.length_nil, Int.reduceToNat, Int.reducePow, Nat.reducePow]) | (refine wk_intro (by kernel_rfl) ?_) | (refine vp_draw (id := 3) (l := []) (by kernel_rfl) ?_) | (refine vp_draw (id := 10) (l := [59, 60]) (by kernel_rfl) ?_) | (refine vp_draw (id := 13) (l := []) (by kernel_rfl) ?_) | (refine vf_of (by first | exact i1 | exact i0 | exact o) ?_))
  by_cases g2 : b < 1
  · clear h e0 e1
    refine Go.Ev.Fn.intro (fn := Tryz.f9) (body := (Tryz.f9).body.get!) (by kernel_rfl) (by kernel_rfl) (by kernel_rfl) (fun _ => rfl) (Nat.le_of_ble_eq_true (by kernel_rfl)) ?_; unfold Tryz.f9; simp only [Option.get!_some]
    repeat (first | (simp only [go_sem, Nat.reduceEqDiff, Nat.reduceAdd, Nat.reduceSub, Nat.reduceMul, Nat.reduceLeDiff, Nat.reduceLT, reduceIte, reduceCtorEq, Nat.succ_ne_zero, elemsC, Int.reduceToNat, Nat.reducePow]) | (simp (disch := (first | omega | (simp only [AL, List.length_map]; omega))) only [AR, AL, ifT, ifF, take_all, List.length_cons, List.length_nil, Int.reduceToNat, Int.reducePow, Nat.reducePow]) | (refine wk_intro (by kernel_rfl) ?_) | (refine vp_draw (id := 3) (l := []) (by kernel_rfl) ?_) | (refine vp_draw (id := 10) (l := [59, 60]) (by kernel_rfl) ?_) | (refine vp_draw (id := 13) (l := []) (by kernel_rfl) ?_) | (refine vf_of (by first | exact i1 | exact i0 | exact o) ?_))
  by_cases hx : x < 0
  · rw [decide_eq_true hx] at e0
    clear h e1
    refine Go.Ev.Fn.intro (fn := Tryz.f9) (body := (Tryz.f9).body.get!) (by kernel_rfl) (by kernel_rfl) (by kernel_rfl) (fun _ => rfl) (Nat.le_of_ble_eq_true (by kernel_rfl)) ?_; unfold Tryz.f9; simp only [Option.get!_some]
    repeat (first | (simp only [go_sem, Nat.reduceEqDiff, Nat.reduceAdd, Nat.reduceSub, Nat.reduceMul, Nat.reduceLeDiff, Nat.reduceLT, reduceIte, reduceCtorEq, Nat.succ_ne_zero, elemsC, Int.reduceToNat, Nat.reducePow, e0]) | (simp (disch := (first | omega | (simp only [AL, List.length_map]; omega))) only [AR, AL, ifT, ifF, take_all, List.length_cons, List.length_nil, Int.reduceToNat, Int.reducePow, Nat.reducePow, e0]) | (refine wk_intro (by kernel_rfl) ?_) | (refine vp_draw (id := 3) (l := []) (by kernel_rfl) ?_) | (refine vp_draw (id := 10) (l := [59, 60]) (by kernel_rfl) ?_) | (refine vp_draw (id := 13) (l := []) (by kernel_rfl) ?_) | (refine vf_of (by first | exact i1 | exact i0 | exact o | exact c0) ?_))
  · rw [decide_eq_false hx] at e0
    rw [decide_eq_true ((h.resolve_left g1).resolve_left g2 |>.resolve_left hx)] at e1
    clear h
    refine Go.Ev.Fn.intro (fn := Tryz.f9) (body := (Tryz.f9).body.get!) (by kernel_rfl) (by kernel_rfl) (by kernel_rfl) (fun _ => rfl) (Nat.le_of_ble_eq_true (by kernel_rfl)) ?_; unfold Tryz.f9; simp only [Option.get!_some]
    repeat (first | (simp only [go_sem, Nat.reduceEqDiff, Nat.reduceAdd, Nat.reduceSub, Nat.reduceMul, Nat.reduceLeDiff, Nat.reduceLT, reduceIte, reduceCtorEq, Nat.succ_ne_zero, elemsC, Int.reduceToNat, Nat.reducePow, e0, e1]) | (simp (disch := (first | omega | (simp only [AL, List.length_map]; omega))) only [AR, AL, ifT, ifF, take_all, List.length_cons, List.length_nil, Int.reduceToNat, Int.reducePow, Nat.reducePow, e0, e1]) | (refine wk_intro (by kernel_rfl) ?_) | (refine vp_draw (id := 3) (l := []) (by kernel_rfl) ?_) | (refine vp_draw (id := 10) (l := [59, 60]) (by kernel_rfl) ?_) | (refine vp_draw (id := 13) (l := []) (by kernel_rfl) ?_) | (refine vf_of (by first | exact i1 | exact i0 | exact o | exact c0 | exact c1) ?_))
end Go.Proofs.YtigiblhmhmgagaaGreat

/- vernierref10.Hold, vernierref12.I, in the evaluator. -/
namespace Go.Proofs.YtigiblhmhmgagaaGreat
set_option linter.unusedSimpArgs false
set_option linter.unusedVariables false
set_option maxRecDepth 8000
open Go.Ev
set_option linter.unusedVariables false
theorem ref10_Hold {p : Nat} (hp : p ≤ 200) : Go.Ev.Fn CX 33 [.int .i64 (p : Int)] (.int .i64 (p : Int)) := by
  have e1 : (if (0 : Int) > (p : Int) then (0 : Int) else (p : Int)) = (p : Int) := if_neg (by omega)
  have e2 : (if (200 : Int) < (p : Int) then (200 : Int) else (p : Int)) = (p : Int) := if_neg (by omega)
  refine Go.Ev.Fn.intro (fn := Tryz.f33) (body := (Tryz.f33).body.get!) (by kernel_rfl) (by kernel_rfl) (by kernel_rfl) (fun _ => rfl) (Nat.le_of_ble_eq_true (by kernel_rfl)) ?_; unfold Tryz.f33; simp only [Option.get!_some]
  repeat (first | (simp only [go_sem, Nat.reduceEqDiff, Nat.reduceAdd, Nat.reduceSub, Nat.reduceMul, Nat.reduceLeDiff, Nat.reduceLT, reduceIte, reduceCtorEq, Nat.succ_ne_zero, elemsC, Int.reduceToNat, Nat.reducePow, e1, e2]) | (simp (disch := (first | omega | (simp only [AL, List.length_map]; omega))) only [AR, AL, ifT, ifF, take_all, List.length_cons, List.length_nil, Int.reduceToNat, Int.reducePow, Nat.reducePow, e1, e2]) | (refine wk_intro (by kernel_rfl) ?_))
section
variable {v : SV} {x : Rat} {L a b p : Nat}
theorem half_len : szR (mkRat 1 2) 1 := ⟨lim_len_lt (by decide +kernel), lim_len_lt (by decide +kernel)⟩
theorem ref12_I_ends (hv : RatA v x L) (hL1 : 1 ≤ L) (hL : L ≤ 10) (ha : 1 ≤ a) (ha2 : a ≤ 256) (hb : 1 ≤ b) (hb2 : b ≤ 256) (h : x = 0 ∨ x = 1) {pI : Int} : Go.Ev.Fn CX 9 [.int .i64 (a : Int), .int .i64 (b : Int), v, .int .i64 pI] (.tup [ballR x x, .bool true]) := by
  have zx := szR_of hv hL1
  have i1 := ref2_Int 1 (by omega)
  have i0 := ref2_Int 0 (by omega)
  have z0 : szR ((0 : Int) : Rat) 2 := int_szR (by omega)
  have z1 : szR ((1 : Int) : Rat) 2 := int_szR (by omega)
  have o := ref4_Of (RatA_rv z0) (by omega)
  have o1 := ref4_Of (RatA_rv z1) (by omega)
  have c0 := ref2_Cmp hv (RatA_rv z0) hL1 (by omega) (by omega)
  have c1 := ref2_Cmp hv (RatA_rv z1) hL1 (by omega) (by omega)
  have zr := ref2_Zero hv hL1 (by omega)
  have sm := ref2_Same hv (RatA_rv z1) hL1 (by omega) (by omega)
  rw [show ((0 : Int) : Rat) = 0 from rfl] at i0 o c0
  rw [show ((1 : Int) : Rat) = 1 from rfl] at i1 c1 sm o1
  have e0 : decide (cmpR x 0 < 0) = false := by rw [cmpR_lt]; exact decide_eq_false (by rcases h with rfl | rfl <;> decide)
  have e1 : decide (cmpR x 1 > 0) = false := by rw [cmpR_gt]; exact decide_eq_false (by rcases h with rfl | rfl <;> decide)
  generalize cmpR x 0 = y0 at *
  generalize cmpR x 1 = y1 at *
  obtain ⟨s, n, d, rfl, -⟩ := hv
  rcases h with rfl | rfl
  · rw [decide_eq_true rfl] at zr
    refine Go.Ev.Fn.intro (fn := Tryz.f9) (body := (Tryz.f9).body.get!) (by kernel_rfl) (by kernel_rfl) (by kernel_rfl) (fun _ => rfl) (Nat.le_of_ble_eq_true (by kernel_rfl)) ?_; unfold Tryz.f9; simp only [Option.get!_some]
    repeat (first | (simp only [go_sem, Nat.reduceEqDiff, Nat.reduceAdd, Nat.reduceSub, Nat.reduceMul, Nat.reduceLeDiff, Nat.reduceLT, reduceIte, reduceCtorEq, Nat.succ_ne_zero, elemsC, Int.reduceToNat, Nat.reducePow, e0, e1]) | (simp (disch := (first | omega | (simp only [AL, List.length_map]; omega))) only [AR, AL, ifT, ifF, take_all, List.length_cons, List.length_nil, Int.reduceToNat, Int.reducePow, Nat.reducePow, e0, e1]) | (refine wk_intro (by kernel_rfl) ?_) | (refine vp_draw (id := 3) (l := []) (by kernel_rfl) ?_) | (refine vp_draw (id := 10) (l := [59, 60]) (by kernel_rfl) ?_) | (refine vp_draw (id := 13) (l := []) (by kernel_rfl) ?_) | (refine vf_of (by first | exact i1 | exact i0 | exact o | exact c0 | exact c1 | exact zr) ?_))
  · rw [decide_eq_false (show ¬ (1 : Rat) = 0 by decide)] at zr
    rw [decide_eq_true rfl] at sm
    refine Go.Ev.Fn.intro (fn := Tryz.f9) (body := (Tryz.f9).body.get!) (by kernel_rfl) (by kernel_rfl) (by kernel_rfl) (fun _ => rfl) (Nat.le_of_ble_eq_true (by kernel_rfl)) ?_; unfold Tryz.f9; simp only [Option.get!_some]
    repeat (first | (simp only [go_sem, Nat.reduceEqDiff, Nat.reduceAdd, Nat.reduceSub, Nat.reduceMul, Nat.reduceLeDiff, Nat.reduceLT, reduceIte, reduceCtorEq, Nat.succ_ne_zero, elemsC, Int.reduceToNat, Nat.reducePow, e0, e1]) | (simp (disch := (first | omega | (simp only [AL, List.length_map]; omega))) only [AR, AL, ifT, ifF, take_all, List.length_cons, List.length_nil, Int.reduceToNat, Int.reducePow, Nat.reducePow, e0, e1]) | (refine wk_intro (by kernel_rfl) ?_) | (refine vp_draw (id := 3) (l := []) (by kernel_rfl) ?_) | (refine vp_draw (id := 10) (l := [59, 60]) (by kernel_rfl) ?_) | (refine vp_draw (id := 13) (l := []) (by kernel_rfl) ?_) | (refine vf_of (by first | exact i1 | exact i0 | exact o | exact c0 | exact c1 | exact zr | exact sm | exact o1) ?_))
theorem ref12_I_lo {A B : Nat} (hv : RatA v x L) (hL1 : 1 ≤ L) (hL : L ≤ 8) (ha : 1 ≤ a) (ha2 : a ≤ 20) (hb : 1 ≤ b) (hb2 : b ≤ 20) (hp : p ≤ 80) (h0 : 0 < x) (h1 : x + x ≤ 1)
    (co : Go.Ev.Fn CX 35 [.int .i64 (a : Int), .int .i64 (b : Int), v, .int .i64 ((p + 40 : Nat) : Int)] (ivN A B)) (hA : (lim A).length ≤ 100) (hB : (lim B).length ≤ 100) :
    Go.Ev.Fn CX 9 [.int .i64 (a : Int), .int .i64 (b : Int), v, .int .i64 ((p : Int) + 20)] (.tup [ballR (mkRat (A : Int) (2 ^ (p + 40))) (mkRat (B : Int) (2 ^ (p + 40))), .bool true]) := by
  have zx := szR_of hv hL1
  have i1 := ref2_Int 1 (by omega)
  have i0 := ref2_Int 0 (by omega)
  have z0 : szR ((0 : Int) : Rat) 2 := int_szR (by omega)
  have z1 : szR ((1 : Int) : Rat) 2 := int_szR (by omega)
  have o := ref4_Of (RatA_rv z0) (by omega)
  have c0 := ref2_Cmp hv (RatA_rv z0) hL1 (by omega) (by omega)
  have c1 := ref2_Cmp hv (RatA_rv z1) hL1 (by omega) (by omega)
  have zr := ref2_Zero hv hL1 (by omega)
  have sm := ref2_Same hv (RatA_rv z1) hL1 (by omega) (by omega)
  have ho := ref10_Hold (p := p + 20) (by omega)
  have oh := ref2_Of false [1] [2] (by simp [okL]) (by simp [okL]) (by simp) (by simp)
  rw [show wth [1] = 1 from rfl, show wth [2] = 2 from rfl] at oh
  have oh' : Go.Ev.Fn CX 19 [.bool false, .sl 1 [.int .u32 1], .sl 1 [.int .u32 2]] (rv (mkRat 1 2)) := oh
  have ch := ref2_Cmp hv (RatA_rv half_len) hL1 (by omega) (by omega)
  have bl := ref4_Ball (a := (A : Int)) (b := (B : Int)) (by rw [Int.natAbs_natCast]; omega) (by rw [Int.natAbs_natCast]; omega) (p + 40) (by omega)
  rw [ivN_eq] at bl
  rw [show ((0 : Int) : Rat) = 0 from rfl] at i0 o c0
  rw [show ((1 : Int) : Rat) = 1 from rfl] at i1 c1 sm
  rw [decide_eq_false (by grind)] at zr
  rw [decide_eq_false (show ¬ x = 1 by grind)] at sm
  have e0 : decide (cmpR x 0 < 0) = false := by rw [cmpR_lt]; exact decide_eq_false (by grind)
  have e1 : decide (cmpR x 1 > 0) = false := by rw [cmpR_gt]; exact decide_eq_false (by grind)
  have eh : decide (cmpR x (mkRat 1 2) ≤ 0) = true := by
    rw [cmpR_le]
    have : mkRat 1 2 * 2 = 1 := by decide +kernel
    exact decide_eq_true (by grind)
  have e3 : (p : Int) + 20 + 20 = (p : Int) + 40 := by omega
  rw [show ((p + 20 : Nat) : Int) = (p : Int) + 20 from rfl] at ho
  rw [show ((p + 40 : Nat) : Int) = (p : Int) + 40 from rfl] at co bl
  clear h0 h1 oh
  generalize mkRat 1 2 = hf at *
  generalize cmpR x 0 = y0 at *
  generalize cmpR x 1 = y1 at *
  generalize cmpR x hf = y2 at *
  generalize mkRat (A : Int) (2 ^ (p + 40)) = u1 at *
  generalize mkRat (B : Int) (2 ^ (p + 40)) = u2 at *
  obtain ⟨s, n, d, rfl, -⟩ := hv
  refine Go.Ev.Fn.intro (fn := Tryz.f9) (body := (Tryz.f9).body.get!) (by kernel_rfl) (by kernel_rfl) (by kernel_rfl) (fun _ => rfl) (Nat.le_of_ble_eq_true (by kernel_rfl)) ?_; unfold Tryz.f9; simp only [Option.get!_some]
  repeat (first | (simp only [go_sem, Nat.reduceEqDiff, Nat.reduceAdd, Nat.reduceSub, Nat.reduceMul, Nat.reduceLeDiff, Nat.reduceLT, reduceIte, reduceCtorEq, Nat.succ_ne_zero, elemsC, Int.reduceToNat, Nat.reducePow, e0, e1, eh, e3]) | (simp (disch := (first | omega | (simp only [AL, List.length_map]; omega))) only [AR, AL, ifT, ifF, take_all, List.length_cons, List.length_nil, Int.reduceToNat, Int.reducePow, Nat.reducePow, e0, e1, eh, e3]) | (refine wk_intro (by kernel_rfl) ?_) | (refine vp_draw (id := 3) (l := []) (by kernel_rfl) ?_) | (refine vp_draw (id := 10) (l := [59, 60]) (by kernel_rfl) ?_) | (refine vp_draw (id := 13) (l := []) (by kernel_rfl) ?_) | (refine vf_of (by first | exact i1 | exact i0 | exact o | exact c0 | exact c1 | exact zr | exact sm | exact ho | exact oh' | exact ch | exact co | exact bl) ?_))
theorem ref12_I_hi {A B : Nat} (hv : RatA v x L) (hL1 : 1 ≤ L) (hL : L ≤ 8) (ha : 1 ≤ a) (ha2 : a ≤ 20) (hb : 1 ≤ b) (hb2 : b ≤ 20) (hp : p ≤ 80) (h0 : 1 < x + x) (h1 : x < 1)
    (co : Go.Ev.Fn CX 35 [.int .i64 (b : Int), .int .i64 (a : Int), rv (1 - x), .int .i64 ((p + 40 : Nat) : Int)] (ivN A B)) (hA : (lim A).length ≤ 100) (hB : (lim B).length ≤ 100) :
    Go.Ev.Fn CX 9 [.int .i64 (a : Int), .int .i64 (b : Int), v, .int .i64 ((p : Int) + 20)] (.tup [ballR (mkRat (((2 ^ (p + 40) : Nat) : Int) - (B : Int)) (2 ^ (p + 40))) (mkRat (((2 ^ (p + 40) : Nat) : Int) - (A : Int)) (2 ^ (p + 40))), .bool true]) := by
  have zx := szR_of hv hL1
  have i1 := ref2_Int 1 (by omega)
  have i0 := ref2_Int 0 (by omega)
  have z0 : szR ((0 : Int) : Rat) 2 := int_szR (by omega)
  have z1 : szR ((1 : Int) : Rat) 2 := int_szR (by omega)
  have o := ref4_Of (RatA_rv z0) (by omega)
  have c0 := ref2_Cmp hv (RatA_rv z0) hL1 (by omega) (by omega)
  have c1 := ref2_Cmp hv (RatA_rv z1) hL1 (by omega) (by omega)
  have zr := ref2_Zero hv hL1 (by omega)
  have sm := ref2_Same hv (RatA_rv z1) hL1 (by omega) (by omega)
  have ho := ref10_Hold (p := p + 20) (by omega)
  have oh := ref2_Of false [1] [2] (by simp [okL]) (by simp [okL]) (by simp) (by simp)
  rw [show wth [1] = 1 from rfl, show wth [2] = 2 from rfl] at oh
  have oh' : Go.Ev.Fn CX 19 [.bool false, .sl 1 [.int .u32 1], .sl 1 [.int .u32 2]] (rv (mkRat 1 2)) := oh
  have ch := ref2_Cmp hv (RatA_rv half_len) hL1 (by omega) (by omega)
  have lP := lim_len_p2 (n := 2 ^ (p + 40)) (Nat.le_refl _) (by omega)
  have n1 := ref4_NumN (w := p + 40) (RatA_rv (one_szR')) (by omega) (by omega) (by omega) (show (0 : Rat) ≤ 1 by decide)
  have u1 : unN 1 (p + 40) = 2 ^ (p + 40) := by show 1 * 2 ^ (p + 40) / 1 = _; rw [Nat.one_mul, Nat.div_one]
  have u2 : upN 1 (p + 40) = 2 ^ (p + 40) := by show cdv (1 * 2 ^ (p + 40)) 1 = _; unfold cdv; rw [Nat.one_mul, Nat.div_one]; omega
  rw [u1, u2] at n1
  have mi := ref4_MinusN (x := ((2 ^ (p + 40) : Nat) : Int)) (y := ((2 ^ (p + 40) : Nat) : Int)) (c := A) (d := B) (by rw [Int.natAbs_natCast]; omega) (by rw [Int.natAbs_natCast]; omega) (by omega) (by omega)
  rw [ivN_eq] at mi
  have sb := ref2_Sub (RatA_rv z1) hv (by omega) hL1 (by omega)
  have la := lim_len_add (a := 2 ^ (p + 40)) (b := A) (L := 200) (by omega) (by omega)
  have lb := lim_len_add (a := 2 ^ (p + 40)) (b := B) (L := 200) (by omega) (by omega)
  have bl := ref4_Ball (a := ((2 ^ (p + 40) : Nat) : Int) - (B : Int)) (b := ((2 ^ (p + 40) : Nat) : Int) - (A : Int)) (Nat.le_trans (lim_len_mono (show _ ≤ 2 ^ (p + 40) + B by omega)) (by omega)) (Nat.le_trans (lim_len_mono (show _ ≤ 2 ^ (p + 40) + A by omega)) (by omega)) (p + 40) (by omega)
  rw [show ((0 : Int) : Rat) = 0 from rfl] at i0 o c0
  rw [show ((1 : Int) : Rat) = 1 from rfl] at i1 c1 sm sb
  rw [decide_eq_false (by grind)] at zr
  rw [decide_eq_false (show ¬ x = 1 by grind)] at sm
  have e0 : decide (cmpR x 0 < 0) = false := by rw [cmpR_lt]; exact decide_eq_false (by grind)
  have e1 : decide (cmpR x 1 > 0) = false := by rw [cmpR_gt]; exact decide_eq_false (by grind)
  have eh : decide (cmpR x (mkRat 1 2) ≤ 0) = false := by
    rw [cmpR_le]
    have : mkRat 1 2 * 2 = 1 := by decide +kernel
    exact decide_eq_false (by grind)
  have e3 : (p : Int) + 20 + 20 = (p : Int) + 40 := by omega
  rw [show ((p + 20 : Nat) : Int) = (p : Int) + 20 from rfl] at ho
  rw [show ((p + 40 : Nat) : Int) = (p : Int) + 40 from rfl] at co bl n1
  clear h0 h1 oh u1 u2 la lb lP
  generalize mkRat 1 2 = hf at *
  generalize cmpR x 0 = y0 at *
  generalize cmpR x 1 = y1 at *
  generalize cmpR x hf = y2 at *
  generalize ((2 ^ (p + 40) : Nat) : Int) - (A : Int) = U1 at *
  generalize ((2 ^ (p + 40) : Nat) : Int) - (B : Int) = U2 at *
  generalize mkRat U1 (2 ^ (p + 40)) = w1 at *
  generalize mkRat U2 (2 ^ (p + 40)) = w2 at *
  generalize 2 ^ (p + 40) = PP at *
  generalize 1 - x = xx at *
  obtain ⟨s, n, d, rfl, -⟩ := hv
  refine Go.Ev.Fn.intro (fn := Tryz.f9) (body := (Tryz.f9).body.get!) (by kernel_rfl) (by kernel_rfl) (by kernel_rfl) (fun _ => rfl) (Nat.le_of_ble_eq_true (by kernel_rfl)) ?_; unfold Tryz.f9; simp only [Option.get!_some]
  repeat (first | (simp only [go_sem, Nat.reduceEqDiff, Nat.reduceAdd, Nat.reduceSub, Nat.reduceMul, Nat.reduceLeDiff, Nat.reduceLT, reduceIte, reduceCtorEq, Nat.succ_ne_zero, elemsC, Int.reduceToNat, Nat.reducePow, e0, e1, eh, e3]) | (simp (disch := (first | omega | (simp only [AL, List.length_map]; omega))) only [AR, AL, ifT, ifF, take_all, List.length_cons, List.length_nil, Int.reduceToNat, Int.reducePow, Nat.reducePow, e0, e1, eh, e3]) | (refine wk_intro (by kernel_rfl) ?_) | (refine vp_draw (id := 3) (l := []) (by kernel_rfl) ?_) | (refine vp_draw (id := 10) (l := [59, 60]) (by kernel_rfl) ?_) | (refine vp_draw (id := 13) (l := []) (by kernel_rfl) ?_) | (refine vf_of (by first | exact i1 | exact i0 | exact o | exact c0 | exact c1 | exact zr | exact sm | exact ho | exact oh' | exact ch | exact n1 | exact sb | exact co | exact mi | exact bl) ?_))
theorem incb_I_big {a b : Int} {pI : Int} (hv : RatA v x L) (hL1 : 1 ≤ L) (hL : L ≤ 250) (ha : -9223372036854775808 ≤ a ∧ a < 9223372036854775808) (hb : -9223372036854775808 ≤ b ∧ b < 9223372036854775808) (h : a < 1 ∨ b < 1 ∨ 256 < a ∨ 256 < b) : Go.Ev.Fn CX 8 [.int .i64 a, .int .i64 b, v, .int .i64 pI] (.tup [ballR 0 0, .bool false]) := by
  have n1 := rat_Norm hv (by omega)
  have zx := szR_of hv hL1
  have i1 := rat_Int 1 (by omega)
  have i0 := rat_Int 0 (by omega)
  have o := ball_Of (RatA_rv (int_szR (n := 0) (by omega))) (by omega)
  rw [show ((0 : Int) : Rat) = 0 from rfl] at i0 o
  rw [show ((1 : Int) : Rat) = 1 from rfl] at i1
  obtain ⟨s, n, d, rfl, -⟩ := hv
  by_cases g0 : a < 1
  · refine Go.Ev.Fn.intro (fn := Tryz.f8) (body := (Tryz.f8).body.get!) (by kernel_rfl) (by kernel_rfl) (by kernel_rfl) (fun _ => rfl) (Nat.le_of_ble_eq_true (by kernel_rfl)) ?_; unfold Tryz.f8; simp only [Option.get!_some]
    repeat (first | (simp only [go_sem, Nat.reduceEqDiff, Nat.reduceAdd, Nat.reduceSub, Nat.reduceMul, Nat.reduceLeDiff, Nat.reduceLT, reduceIte, reduceCtorEq, Nat.succ_ne_zero, elemsC, Int.reduceToNat, Nat.reducePow]) | (simp (disch := (first | omega | (simp only [AL, List.length_map]; omega))) only [AR, AL, ifT, ifF, take_all, List.length_cons, List.length_nil, Int.reduceToNat, Int.reducePow, Nat.reducePow]) | (refine wk_intro (by kernel_rfl) ?_) | (refine vp_draw (id := 9) (l := []) (by kernel_rfl) ?_) | (refine vp_draw (id := 11) (l := []) (by kernel_rfl) ?_) | (refine vf_of (by first | exact n1 | exact i1 | exact i0 | exact o) ?_))
  by_cases g1 : 256 < a
  · refine Go.Ev.Fn.intro (fn := Tryz.f8) (body := (Tryz.f8).body.get!) (by kernel_rfl) (by kernel_rfl) (by kernel_rfl) (fun _ => rfl) (Nat.le_of_ble_eq_true (by kernel_rfl)) ?_; unfold Tryz.f8; simp only [Option.get!_some]
    repeat (first | (simp only [go_sem, Nat.reduceEqDiff, Nat.reduceAdd, Nat.reduceSub, Nat.reduceMul, Nat.reduceLeDiff, Nat.reduceLT, reduceIte, reduceCtorEq, Nat.succ_ne_zero, elemsC, Int.reduceToNat, Nat.reducePow]) | (simp (disch := (first | omega | (simp only [AL, List.length_map]; omega))) only [AR, AL, ifT, ifF, take_all, List.length_cons, List.length_nil, Int.reduceToNat, Int.reducePow, Nat.reducePow]) | (refine wk_intro (by kernel_rfl) ?_) | (refine vp_draw (id := 9) (l := []) (by kernel_rfl) ?_) | (refine vp_draw (id := 11) (l := []) (by kernel_rfl) ?_) | (refine vf_of (by first | exact n1 | exact i1 | exact i0 | exact o) ?_))
  by_cases g2 : b < 1
  · refine Go.Ev.Fn.intro (fn := Tryz.f8) (body := (Tryz.f8).body.get!) (by kernel_rfl) (by kernel_rfl) (by kernel_rfl) (fun _ => rfl) (Nat.le_of_ble_eq_true (by kernel_rfl)) ?_; unfold Tryz.f8; simp only [Option.get!_some]
    repeat (first | (simp only [go_sem, Nat.reduceEqDiff, Nat.reduceAdd, Nat.reduceSub, Nat.reduceMul, Nat.reduceLeDiff, Nat.reduceLT, reduceIte, reduceCtorEq, Nat.succ_ne_zero, elemsC, Int.reduceToNat, Nat.reducePow]) | (simp (disch := (first | omega | (simp only [AL, List.length_map]; omega))) only [AR, AL, ifT, ifF, take_all, List.length_cons, List.length_nil, Int.reduceToNat, Int.reducePow, Nat.reducePow]) | (refine wk_intro (by kernel_rfl) ?_) | (refine vp_draw (id := 9) (l := []) (by kernel_rfl) ?_) | (refine vp_draw (id := 11) (l := []) (by kernel_rfl) ?_) | (refine vf_of (by first | exact n1 | exact i1 | exact i0 | exact o) ?_))
  · refine Go.Ev.Fn.intro (fn := Tryz.f8) (body := (Tryz.f8).body.get!) (by kernel_rfl) (by kernel_rfl) (by kernel_rfl) (fun _ => rfl) (Nat.le_of_ble_eq_true (by kernel_rfl)) ?_; unfold Tryz.f8; simp only [Option.get!_some]
    repeat (first | (simp only [go_sem, Nat.reduceEqDiff, Nat.reduceAdd, Nat.reduceSub, Nat.reduceMul, Nat.reduceLeDiff, Nat.reduceLT, reduceIte, reduceCtorEq, Nat.succ_ne_zero, elemsC, Int.reduceToNat, Nat.reducePow]) | (simp (disch := (first | omega | (simp only [AL, List.length_map]; omega))) only [AR, AL, ifT, ifF, take_all, List.length_cons, List.length_nil, Int.reduceToNat, Int.reducePow, Nat.reducePow]) | (refine wk_intro (by kernel_rfl) ?_) | (refine vp_draw (id := 9) (l := []) (by kernel_rfl) ?_) | (refine vp_draw (id := 11) (l := []) (by kernel_rfl) ?_) | (refine vf_of (by first | exact n1 | exact i1 | exact i0 | exact o) ?_))
theorem ref12_I_big {a b : Int} {pI : Int} (hv : RatA v x L) (ha : -9223372036854775808 ≤ a ∧ a < 9223372036854775808) (hb : -9223372036854775808 ≤ b ∧ b < 9223372036854775808) (h : a < 1 ∨ b < 1 ∨ 256 < a ∨ 256 < b) : Go.Ev.Fn CX 9 [.int .i64 a, .int .i64 b, v, .int .i64 pI] (.tup [ballR 0 0, .bool false]) := by
  have i1 := ref2_Int 1 (by omega)
  have i0 := ref2_Int 0 (by omega)
  have o := ref4_Of (RatA_rv (int_szR (n := 0) (by omega))) (by omega)
  rw [show ((0 : Int) : Rat) = 0 from rfl] at i0 o
  rw [show ((1 : Int) : Rat) = 1 from rfl] at i1
  obtain ⟨s, n, d, rfl, -⟩ := hv
  by_cases g0 : a < 1
  · refine Go.Ev.Fn.intro (fn := Tryz.f9) (body := (Tryz.f9).body.get!) (by kernel_rfl) (by kernel_rfl) (by kernel_rfl) (fun _ => rfl) (Nat.le_of_ble_eq_true (by kernel_rfl)) ?_; unfold Tryz.f9; simp only [Option.get!_some]
    repeat (first | (simp only [go_sem, Nat.reduceEqDiff, Nat.reduceAdd, Nat.reduceSub, Nat.reduceMul, Nat.reduceLeDiff, Nat.reduceLT, reduceIte, reduceCtorEq, Nat.succ_ne_zero, elemsC, Int.reduceToNat, Nat.reducePow]) | (simp (disch := (first | omega | (simp only [AL, List.length_map]; omega))) only [AR, AL, ifT, ifF, take_all, List.length_cons, List.length_nil, Int.reduceToNat, Int.reducePow, Nat.reducePow]) | (refine wk_intro (by kernel_rfl) ?_) | (refine vp_draw (id := 3) (l := []) (by kernel_rfl) ?_) | (refine vp_draw (id := 10) (l := [59, 60]) (by kernel_rfl) ?_) | (refine vp_draw (id := 13) (l := []) (by kernel_rfl) ?_) | (refine vf_of (by first | exact i1 | exact i0 | exact o) ?_))
  by_cases g2 : b < 1
  · refine Go.Ev.Fn.intro (fn := Tryz.f9) (body := (Tryz.f9).body.get!) (by kernel_rfl) (by kernel_rfl) (by kernel_rfl) (fun _ => rfl) (Nat.le_of_ble_eq_true (by kernel_rfl)) ?_; unfold Tryz.f9; simp only [Option.get!_some]
    repeat (first | (simp only [go_sem, Nat.reduceEqDiff, Nat.reduceAdd, Nat.reduceSub, Nat.reduceMul, Nat.reduceLeDiff, Nat.reduceLT, reduceIte, reduceCtorEq, Nat.succ_ne_zero, elemsC, Int.reduceToNat, Nat.reducePow]) | (simp (disch := (first | omega | (simp only [AL, List.length_map]; omega))) only [AR, AL, ifT, ifF, take_all, List.length_cons, List.length_nil, Int.reduceToNat, Int.reducePow, Nat.reducePow]) | (refine wk_intro (by kernel_rfl) ?_) | (refine vp_draw (id := 3) (l := []) (by kernel_rfl) ?_) | (refine vp_draw (id := 10) (l := [59, 60]) (by kernel_rfl) ?_) | (refine vp_draw (id := 13) (l := []) (by kernel_rfl) ?_) | (refine vf_of (by first | exact i1 | exact i0 | exact o) ?_))
  by_cases g1 : 256 < a
  · refine Go.Ev.Fn.intro (fn := Tryz.f9) (body := (Tryz.f9).body.get!) (by kernel_rfl) (by kernel_rfl) (by kernel_rfl) (fun _ => rfl) (Nat.le_of_ble_eq_true (by kernel_rfl)) ?_; unfold Tryz.f9; simp only [Option.get!_some]
    repeat (first | (simp only [go_sem, Nat.reduceEqDiff, Nat.reduceAdd, Nat.reduceSub, Nat.reduceMul, Nat.reduceLeDiff, Nat.reduceLT, reduceIte, reduceCtorEq, Nat.succ_ne_zero, elemsC, Int.reduceToNat, Nat.reducePow]) | (simp (disch := (first | omega | (simp only [AL, List.length_map]; omega))) only [AR, AL, ifT, ifF, take_all, List.length_cons, List.length_nil, Int.reduceToNat, Int.reducePow, Nat.reducePow]) | (refine wk_intro (by kernel_rfl) ?_) | (refine vp_draw (id := 3) (l := []) (by kernel_rfl) ?_) | (refine vp_draw (id := 10) (l := [59, 60]) (by kernel_rfl) ?_) | (refine vp_draw (id := 13) (l := []) (by kernel_rfl) ?_) | (refine vf_of (by first | exact i1 | exact i0 | exact o) ?_))
  · refine Go.Ev.Fn.intro (fn := Tryz.f9) (body := (Tryz.f9).body.get!) (by kernel_rfl) (by kernel_rfl) (by kernel_rfl) (fun _ => rfl) (Nat.le_of_ble_eq_true (by kernel_rfl)) ?_; unfold Tryz.f9; simp only [Option.get!_some]
    repeat (first | (simp only [go_sem, Nat.reduceEqDiff, Nat.reduceAdd, Nat.reduceSub, Nat.reduceMul, Nat.reduceLeDiff, Nat.reduceLT, reduceIte, reduceCtorEq, Nat.succ_ne_zero, elemsC, Int.reduceToNat, Nat.reducePow]) | (simp (disch := (first | omega | (simp only [AL, List.length_map]; omega))) only [AR, AL, ifT, ifF, take_all, List.length_cons, List.length_nil, Int.reduceToNat, Int.reducePow, Nat.reducePow]) | (refine wk_intro (by kernel_rfl) ?_) | (refine vp_draw (id := 3) (l := []) (by kernel_rfl) ?_) | (refine vp_draw (id := 10) (l := [59, 60]) (by kernel_rfl) ?_) | (refine vp_draw (id := 13) (l := []) (by kernel_rfl) ?_) | (refine vf_of (by first | exact i1 | exact i0 | exact o) ?_))
end
end Go.Proofs.YtigiblhmhmgagaaGreat

/- incb.I of whole numbers; vernierlaw12.known, in the evaluator. -/
namespace Go.Proofs.YtigiblhmhmgagaaGreat
set_option linter.unusedSimpArgs false
set_option linter.unusedVariables false
set_option maxRecDepth 8000
open Go.Ev
section
variable {v : SV} {x : Rat} {A B p : Nat}
/-- Of whole numbers the share is told: it lies in the ball, which is as narrow as asked. -/
theorem incb_I (hv : RatA v x 1) (hA : 1 ≤ A) (hB : 1 ≤ B) (hAB : A + B ≤ 10) (hp : p ≤ 60) (h0 : 0 ≤ x) (h1 : x ≤ 1) : ∃ lo hi : Rat, Go.Ev.Fn CX 8 [.int .i64 (2 * (A : Int)), .int .i64 (2 * (B : Int)), v, .int .i64 (p : Int)] (.tup [ballR lo hi, .bool true]) ∧
    lo ≤ sS x (1 - x) (A + B - 1) B ∧ sS x (1 - x) (A + B - 1) B ≤ hi ∧ (hi - lo) * p2 p ≤ 1 ∧ szR lo 110 ∧ szR hi 110 := by
  have zx := szR_of hv (by omega)
  have hP := p2_pos p
  have one1 : szR 1 1 := ⟨lim_len_lt (by decide +kernel), lim_len_lt (by decide +kernel)⟩
  have fin : ∀ {A' B' : Nat}, (lim A').length ≤ 100 → (lim B').length ≤ 100 → szR (mkRat ((A' / 2 ^ (p + 300 - (p + 2)) : Nat) : Int) (2 ^ (p + 2))) 101 ∧ szR (mkRat ((B' / 2 ^ (p + 300 - (p + 2)) + 1 : Nat) : Int) (2 ^ (p + 2))) 101 := by
    intro A' B' hA' hB'
    have l3 := lim_len_mono (Nat.div_le_self A' (2 ^ (p + 300 - (p + 2))))
    have l4 := lim_len_mono (Nat.div_le_self B' (2 ^ (p + 300 - (p + 2))))
    have l1 := lim_len1
    have l5 := lim_len_add (a := B' / 2 ^ (p + 300 - (p + 2))) (b := 1) (L := 100) (by omega) (by omega)
    have lp := lim_len_shl (a := 1) (n := p + 2)
    rw [Nat.one_mul] at lp
    exact ⟨szR_mk (s := false) (n := A' / 2 ^ (p + 300 - (p + 2))) (d := 2 ^ (p + 2)) (L := 101) (by omega) (by omega) (by omega), szR_mk (s := false) (n := B' / 2 ^ (p + 300 - (p + 2)) + 1) (d := 2 ^ (p + 2)) (L := 101) (by omega) (by omega) (by omega)⟩
  by_cases hx0 : x = 0
  · have f := incb_I_ends (a := 2 * (A : Int)) (b := 2 * (B : Int)) (pI := (p : Int)) hv (by omega) (by omega) (by omega) (by omega) (.inl hx0)
    subst hx0
    have hz : ∀ j, j ≤ B → sS 0 (1 - 0) (A + B - 1) j = 0 := by
      intro j
      induction j with
      | zero => intro _; rfl
      | succ j ih =>
        intro hj
        show sS 0 (1 - 0) (A + B - 1) j + trm 0 (1 - 0) (A + B - 1) j = 0
        rw [ih (by omega)]
        unfold trm
        rw [show A + B - 1 - j = (A + B - 2 - j) + 1 by omega, pwR_succ]
        grind
    rw [hz B (Nat.le_refl _)]
    exact ⟨0, 0, f, Rat.le_refl, Rat.le_refl, by rw [Rat.sub_self, Rat.zero_mul]; decide, szR_mono zx (by omega), szR_mono zx (by omega)⟩
  by_cases hx1 : x = 1
  · have f := incb_I_ends (a := 2 * (A : Int)) (b := 2 * (B : Int)) (pI := (p : Int)) hv (by omega) (by omega) (by omega) (by omega) (.inr hx1)
    subst hx1
    have hz : ∀ j, j < B → sS 1 (1 - 1) (A + B - 1) (j + 1) = 1 := by
      intro j
      induction j with
      | zero =>
        intro _
        show 0 + trm 1 (1 - 1) (A + B - 1) 0 = 1
        unfold trm
        have e : ∀ n, pwR 1 n = 1 := by
          intro n
          induction n with
          | zero => rfl
          | succ n ih => rw [pwR_succ, ih, Rat.mul_one]
        rw [cc_zero, e]
        show (0 : Rat) + ((1 : Nat) : Rat) * 1 * 1 = 1
        decide +kernel
      | succ j ih =>
        intro hj
        show sS 1 (1 - 1) (A + B - 1) (j + 1) + trm 1 (1 - 1) (A + B - 1) (j + 1) = 1
        rw [ih (by omega)]
        unfold trm
        rw [pwR_succ]
        grind
    have hB2 := hz (B - 1) (by omega)
    rw [show B - 1 + 1 = B by omega] at hB2
    rw [hB2]
    exact ⟨1, 1, f, Rat.le_refl, Rat.le_refl, by rw [Rat.sub_self, Rat.zero_mul]; decide, szR_mono zx (by omega), szR_mono zx (by omega)⟩
  have hpos : 0 < x := by clear fin; grind
  have hlt : x < 1 := by clear fin; grind
  by_cases hh : x + x ≤ 1
  · obtain ⟨-, -, A', B', K, hg⟩ := row_ends (w := p + 300) hA hB hAB h0 hh (by omega) (by omega)
    obtain ⟨g1, g2, g3, g4⟩ := row_has hA hB hAB h0 hh (by omega) (by omega) hg
    have lB := lim_len_p2 g4 (by omega)
    have lA : (lim A').length ≤ 100 := by
      have : A' ≤ B' := by
        have h := Rat.le_trans g1 g2
        exact_mod_cast h
      exact Nat.le_trans (lim_len_mono this) (by omega)
    have f := incb_I_low hv (by omega) (by omega) hA hB hAB hp hpos hh hg ⟨lA, by omega⟩
    obtain ⟨t1, t2, t3⟩ := told_has g1 g2 g3
    obtain ⟨z1, z2⟩ := fin lA (show (lim B').length ≤ 100 by omega)
    exact ⟨_, _, f, t1, t2, t3, szR_mono z1 (by omega), szR_mono z2 (by omega)⟩
  · have hh' : 1 < x + x := by clear fin; grind
    have hy : (1 - x) + (1 - x) ≤ 1 := by clear fin; grind
    have hy0 : 0 ≤ 1 - x := by clear fin; grind
    obtain ⟨-, -, A', B', K, hg⟩ := row_ends (x := 1 - x) (w := p + 300) hB hA (by omega) hy0 hy (by omega) (by omega)
    obtain ⟨g1, g2, g3, g4⟩ := row_has hB hA (by omega) hy0 hy (by omega) (by omega) hg
    have lB := lim_len_p2 g4 (by omega)
    have lA : (lim A').length ≤ 100 := by
      have : A' ≤ B' := by
        have h := Rat.le_trans g1 g2
        exact_mod_cast h
      exact Nat.le_trans (lim_len_mono this) (by omega)
    have f := incb_I_high hv (by omega) (by omega) hA hB hAB hp hh' hlt hg ⟨lA, by omega⟩
    obtain ⟨t1, t2, t3⟩ := told_has g1 g2 g3
    obtain ⟨z1, z2⟩ := fin lA (show (lim B').length ≤ 100 by omega)
    have tn := sS_turn (x := x) (y := 1 - x) (by clear fin hg f t1 t2 t3 g1 g2 g3 g4; grind) (n := A + B - 1) B (by omega)
    rw [show A + B - 1 + 1 - B = A by omega] at tn
    rw [show 1 - (1 - x) = x by clear fin hg f t1 t2 t3 g1 g2 g3 g4; grind, show B + A - 1 = A + B - 1 by omega] at t1 t2
    refine ⟨_, _, f, ?_, ?_, ?_, szR_mono (szR_sub one1 z2 (by omega)) (by omega), szR_mono (szR_sub one1 z1 (by omega)) (by omega)⟩
    all_goals clear hg f fin g1 g2 g3 g4 lA lB z1 z2
    all_goals
      generalize mkRat ((B' / 2 ^ (p + 300 - (p + 2)) + 1 : Nat) : Int) (2 ^ (p + 2)) = q2 at *
      generalize mkRat ((A' / 2 ^ (p + 300 - (p + 2)) : Nat) : Int) (2 ^ (p + 2)) = q1 at *
    · grind
    · grind
    · have e : 1 - q1 - (1 - q2) = q2 - q1 := by grind
      rw [e]; exact t3
end
theorem third_len : szR (mkRat 1 3) 1 := ⟨lim_len_lt (by decide +kernel), lim_len_lt (by decide +kernel)⟩
theorem known12 : Go.Ev.Fn CX 7 [] (.bool true) := by
  have o := ref2_Of false [1] [3] (by simp [okL]) (by simp [okL]) (by simp) (by simp)
  rw [show wth [1] = 1 from rfl, show wth [3] = 3 from rfl] at o
  have o' : Go.Ev.Fn CX 19 [.bool false, .sl 1 [.int .u32 1], .sl 1 [.int .u32 3]] (rv (mkRat 1 3)) := o
  obtain ⟨lo, hi, f, g1, g2, g3, z1, z2⟩ := incb_I (A := 1) (B := 1) (p := 20) (RatA_rv third_len) (by omega) (by omega) (by omega) (by omega) (by decide +kernel) (by decide +kernel)
  have hV : sS (mkRat 1 3) (1 - mkRat 1 3) (1 + 1 - 1) 1 = mkRat 1 3 := by
    show 0 + ((cc 1 0 : Nat) : Rat) * (1 * mkRat 1 3) * 1 = _
    rw [cc_zero]
    have : ((1 : Nat) : Rat) = 1 := rfl
    rw [this]; grind
  rw [hV] at g1 g2
  have f' : Go.Ev.Fn CX 8 [.int .i64 2, .int .i64 2, rv (mkRat 1 3), .int .i64 20] (.tup [ballR lo hi, .bool true]) := f
  have of := ref4_Of (RatA_rv third_len) (by omega)
  have gd := ref4_Good (p := 20) (P := 20) (.inr rfl) (by omega) z1 z2 third_len third_len (by omega) (by omega) (by omega) (Rat.le_trans g1 g2) g2 g1 g3
  clear f o hV g1 g2 g3
  generalize mkRat 1 3 = t at *
  refine Go.Ev.Fn.intro (fn := Tryz.f7) (body := (Tryz.f7).body.get!) (by kernel_rfl) (by kernel_rfl) (by kernel_rfl) (fun _ => rfl) (Nat.le_of_ble_eq_true (by kernel_rfl)) ?_; unfold Tryz.f7; simp only [Option.get!_some]
  repeat (first | (simp only [go_sem, Nat.reduceEqDiff, Nat.reduceAdd, Nat.reduceSub, Nat.reduceMul, Nat.reduceLeDiff, Nat.reduceLT, reduceIte, reduceCtorEq, Nat.succ_ne_zero, elemsC, Int.reduceToNat, Nat.reducePow]) | (simp (disch := (first | omega | (simp only [AL, List.length_map]; omega))) only [AR, AL, ifT, ifF, take_all, List.length_cons, List.length_nil, Int.reduceToNat, Int.reducePow, Nat.reducePow]) | (refine wk_intro (by kernel_rfl) ?_) | (refine vp_draw (id := 3) (l := []) (by kernel_rfl) ?_) | (refine vf_of (by first | exact o' | exact f' | exact of | exact gd) ?_))
end Go.Proofs.YtigiblhmhmgagaaGreat

/- vernierlaw12.IncbTells, in the evaluator. -/
namespace Go.Proofs.YtigiblhmhmgagaaGreat
set_option linter.unusedSimpArgs false
set_option linter.unusedVariables false
set_option maxRecDepth 8000
open Go.Ev
set_option linter.unusedVariables false
theorem sq_monD {x y : Rat} (hx : 0 ≤ x) (hy : 0 ≤ y) (h : x * x ≤ y * y) : x ≤ y := by
  rcases Rat.le_total (a := x) (b := y) with g | g
  · exact g
  · by_cases e : y = x
    · rw [e]; exact Rat.le_refl
    · have h1 : y < x := by grind
      have h2 : y * y ≤ x * y := Rat.mul_le_mul_of_nonneg_right g hy
      have h3 : x * y < x * x := by
        have : 0 < x * (x - y) := Rat.mul_pos (by grind) (by grind)
        grind
      grind
theorem wf_int64D {n : Int} (h : (Lit.int .i64 n).wf = true) : -9223372036854775808 ≤ n ∧ n < 9223372036854775808 := by
  have h' : decide (IntKind.i64.min ≤ n ∧ n ≤ IntKind.i64.max) = true := by simpa [Lit.wf] using h
  have := of_decide_eq_true h'
  simp only [show IntKind.i64.min = -9223372036854775808 from rfl, show IntKind.i64.max = 9223372036854775807 from rfl] at this
  omega
theorem mul3 (c s r P : Rat) : c * (s + 3 * r) * P = c * s * P + 3 * (c * r * P) := by grind
theorem told_has2 {A' B' p : Nat} {V : Rat} (h1 : (A' : Rat) ≤ V * p2 (p + 300)) (h2 : V * p2 (p + 300) ≤ (B' : Rat)) (h3 : B' ≤ A' + 2 ^ 121) : toldLo A' p ≤ V ∧ V ≤ toldHi B' p ∧ (toldHi B' p - toldLo A' p) * p2 p ≤ 1 := by
  unfold toldLo toldHi
  have P1 := p2_pos (p + 2)
  obtain ⟨F, hF, hF2⟩ : ∃ F : Nat, F = p + 300 - (p + 2) ∧ 121 ≤ F := ⟨_, rfl, by omega⟩
  rw [← hF]
  have P2 := p2_pos F
  have hsp : p2 (p + 300) = p2 (p + 2) * p2 F := by rw [← p2_plus, show p + 2 + F = p + 300 by omega]
  have f := floor_le (a := A') (d := 2 ^ F)
  have g := le_floor (a := B') (d := 2 ^ F) (Nat.pow_pos (by omega))
  have m1 := mk_p2n (A' / 2 ^ F) (p + 2)
  have m2 := mk_p2n (B' / 2 ^ F + 1) (p + 2)
  have gap : B' / 2 ^ F ≤ A' / 2 ^ F + 1 := by
    have h6 : 2 ^ 121 ≤ 2 ^ F := Nat.pow_le_pow_right (by omega) hF2
    have h4 : B' ≤ A' + 2 ^ F := Nat.le_trans h3 (Nat.add_le_add_left h6 _)
    have h5 := Nat.div_le_div_right (c := 2 ^ F) h4
    rwa [Nat.add_div_right _ (Nat.pow_pos (by omega))] at h5
  have gapR := nat_le_rat (Nat.add_le_add_right gap 1)
  have c2 : ((A' / 2 ^ F + 1 + 1 : Nat) : Rat) = ((A' / 2 ^ F : Nat) : Rat) + 2 := by exact_mod_cast rfl
  rw [c2] at gapR
  have hp2 : p2 (p + 2) = p2 p * 4 := by
    rw [p2_plus]; rfl
  change _ * p2 F ≤ _ at f
  change _ ≤ _ * p2 F at g
  clear hF gap h3
  generalize mkRat ((A' / 2 ^ F : Nat) : Int) (2 ^ (p + 2)) = q1 at *
  generalize mkRat ((B' / 2 ^ F + 1 : Nat) : Int) (2 ^ (p + 2)) = q2 at *
  refine ⟨le_by P1 ?_, le_by P1 ?_, ?_⟩
  · rw [m1]
    refine le_by P2 ?_
    have : V * p2 (p + 2) * p2 F = V * p2 (p + 300) := by rw [hsp]; grind
    rw [this]; exact Rat.le_trans f h1
  · rw [m2]
    refine le_by P2 ?_
    have : V * p2 (p + 2) * p2 F = V * p2 (p + 300) := by rw [hsp]; grind
    rw [this]; exact Rat.le_trans h2 g
  · rw [hp2] at m1 m2
    clear hp2 hsp f g h1 h2 c2
    generalize p2 p = z at *
    grind
section
variable {x : Rat} {a b p L : Nat} {v : SV} {pI : Int}
/-- Both tell of one number, which lies in both. -/
theorem tells_core (hz : szR x L) (hL1 : 1 ≤ L) (hL : L ≤ 5) (ha : 1 ≤ a) (ha2 : a ≤ 20) (hb : 1 ≤ b) (hb2 : b ≤ 20) (hp : p ≤ 80) (h0 : 0 ≤ x) (h1 : x + x ≤ 1) (hv : RatA v x L) :
    ∃ A B C D : Nat, ∃ V : Rat, Go.Ev.Fn CX 28 [.int .i64 (a : Int), .int .i64 (b : Int), rv x, .int .i64 ((p + 300 : Nat) : Int)] (spanV A B) ∧ (lim A).length ≤ 100 ∧ (lim B).length ≤ 100 ∧
      Go.Ev.Fn CX 35 [.int .i64 (a : Int), .int .i64 (b : Int), v, .int .i64 ((p + 40 : Nat) : Int)] (ivN C D) ∧ (lim C).length ≤ 100 ∧ (lim D).length ≤ 100 ∧
      toldLo A p ≤ V ∧ V ≤ toldHi B p ∧ (toldHi B p - toldLo A p) * p2 p ≤ 1 ∧ Enc (p + 40) C D V := by
  obtain ⟨F1, F2, p1, p2', q1, q2, fi, g1, g2, g3, r1, r2, r3, r4, r5, r6, r7, r8, hF⟩ := incb_fst (w := p + 300) ha ha2 hb hb2 hz hL1 (by omega) h0 (show x ≤ 1 by grind) (by omega) (by omega)
  obtain ⟨A, B, K, hg⟩ := rowh_ends ha hb2 h0 h1 (by omega) (by omega) g1 g2 g3
  obtain ⟨k1, k2, k3⟩ := rowh_bd ha hb2 h0 h1 (by omega) g1 g2 g3 hg
  have f := incb_rowh ha ha2 hb hb2 hz (by omega) h0 h1 (by omega) (by omega) fi g1 g2 g3 hg
  have lB := lim_len_p2 k3 (by omega)
  obtain ⟨C, D, K2, t1, t2, u1, u2, fc, c1, c2, a0, a1, a2, a3, b0, b1, b2, b3, hE⟩ := ref12_core (w := p + 40) hv hL1 (by omega) ha ha2 hb hb2 h0 h1 (by omega) (by omega)
  obtain ⟨N, hN, hN2⟩ : ∃ N : Nat, D ≤ 2 ^ N ∧ N ≤ 1000 := ⟨_, c2, by omega⟩
  have lD := lim_len_p2 hN hN2
  have lC := lim_len_mono c1
  have q2nn : 0 ≤ q2 := Rat.le_trans r6 r5
  have p2nn : 0 ≤ p2' := Rat.le_trans r2 r1
  obtain ⟨sx, x1, x2, x3, x4⟩ : ∃ s, p1 ≤ s ∧ s ≤ p2' ∧ t1 ≤ s ∧ s ≤ t2 := by
    rcases Rat.le_total (a := p1) (b := t1) with h | h
    · exact ⟨t1, h, sq_monD a0 p2nn (Rat.le_trans a1 r4), Rat.le_refl, sq_monD a0 a2 (Rat.le_trans a1 a3)⟩
    · exact ⟨p1, Rat.le_refl, r1, h, sq_monD r2 a2 (Rat.le_trans r3 a3)⟩
  obtain ⟨sy, y1, y2, y3, y4⟩ : ∃ s, q1 ≤ s ∧ s ≤ q2 ∧ u1 ≤ s ∧ s ≤ u2 := by
    rcases Rat.le_total (a := q1) (b := u1) with h | h
    · exact ⟨u1, h, sq_monD b0 q2nn (Rat.le_trans b1 r8), Rat.le_refl, sq_monD b0 b2 (Rat.le_trans b1 b3)⟩
    · exact ⟨q1, Rat.le_refl, r5, h, sq_monD r6 b2 (Rat.le_trans r7 b3)⟩
  have en := hF sx sy x1 x2 y1 y2
  have en1 : Enc (p + 300) F1 F2 (fstR a b x sx sy * rR x a b 0) := by
    show Enc _ _ _ (_ * 1)
    rw [Rat.mul_one]; exact en
  have en2 : Enc (p + 300) F1 F2 (fstR a b x sx sy * sR x a b 0) := en1
  obtain ⟨hbK, e3, e4, e5⟩ := row_enc (un_enc h0 (p + 300)) 2201 0 _ _ _ _ hg en1 en2
  have ed := hE sx sy x3 x4 y3 y4 (max K K2) (Nat.le_max_right _ _)
  have s1 := sR_up (a := a) (b := b) h0 (Nat.le_max_left K K2)
  have s2 := sR_top (a := a) (b := b) h0 h1 (k := K) (m := max K K2) hbK
  have P := p2_pos (p + 300)
  have cn : 0 ≤ fstR a b x sx sy := enc_nonneg en
  have lo : (A : Rat) ≤ fstR a b x sx sy * sR x a b (max K K2) * p2 (p + 300) := Rat.le_trans e3 (Rat.mul_le_mul_of_nonneg_right (Rat.mul_le_mul_of_nonneg_left s1 cn) (Rat.le_of_lt P))
  have hi : fstR a b x sx sy * sR x a b (max K K2) * p2 (p + 300) ≤ (B : Rat) := by
    have m := Rat.mul_le_mul_of_nonneg_right (Rat.mul_le_mul_of_nonneg_left s2 cn) (Rat.le_of_lt P)
    refine Rat.le_trans m ?_
    rw [mul3]
    clear f fi hg hF hE fc ed en en1 en2 hN c2 k3 lB g3
    generalize fstR a b x sx sy * sR x a b K * p2 (p + 300) = c1 at *
    generalize fstR a b x sx sy * rR x a b K * p2 (p + 300) = c2 at *
    grind
  obtain ⟨w1, w2, w3⟩ := told_has2 lo hi k2
  exact ⟨A, B, C, D, _, f, Nat.le_trans (lim_len_mono k1) (by omega), by omega, fc, by omega, by omega, w1, w2, w3, ed⟩
theorem sub_abs (m k : Nat) : ((m : Int) - (k : Int)).natAbs ≤ m + k := by omega
theorem doc_sz {C : Nat} {A : Int} (h : (lim A.natAbs).length ≤ 200) (hC : C ≤ 200) : szR (mkRat A (2 ^ C)) 210 := by
  have l := lim_len_shl (a := 1) (n := C)
  have l1 := lim_len1
  rw [Nat.one_mul] at l
  have y := szR_mk (s := decide (A < 0)) (n := A.natAbs) (d := 2 ^ C) (L := 210) (by omega) (by omega) (by omega)
  rwa [sgn_self] at y
/-- Both give a ball that may be; both have one number. -/
theorem tells_balls (hv : RatA v x 3) (ha : 1 ≤ a) (ha2 : a ≤ 20) (hb : 1 ≤ b) (hb2 : b ≤ 20) (hp : (pI ≤ 0 ∧ p = 0) ∨ pI = (p : Int)) (hp2 : p ≤ 80) (h0 : 0 ≤ x) (h1 : x ≤ 1) :
    ∃ l h c d : Rat, Go.Ev.Fn CX 8 [.int .i64 (a : Int), .int .i64 (b : Int), v, .int .i64 pI] (.tup [ballR l h, .bool true]) ∧ Go.Ev.Fn CX 9 [.int .i64 (a : Int), .int .i64 (b : Int), v, .int .i64 ((p : Int) + 20)] (.tup [ballR c d, .bool true]) ∧
      szR l 210 ∧ szR h 210 ∧ szR c 210 ∧ szR d 210 ∧ l ≤ h ∧ c ≤ h ∧ l ≤ d ∧ (h - l) * p2 p ≤ 1 := by
  have zx := szR_of hv (by omega)
  by_cases e : x = 0 ∨ x = 1
  · have f1 := incb_I_ends (a := (a : Int)) (b := (b : Int)) (pI := pI) hv (by omega) (by omega) (by omega) (by omega) e
    have f2 := ref12_I_ends (a := a) (b := b) (pI := (p : Int) + 20) hv (by omega) (by omega) ha (by omega) hb (by omega) e
    exact ⟨x, x, x, x, f1, f2, szR_mono zx (by omega), szR_mono zx (by omega), szR_mono zx (by omega), szR_mono zx (by omega), Rat.le_refl, Rat.le_refl, Rat.le_refl, by rw [Rat.sub_self, Rat.zero_mul]; decide⟩
  have n0 : 0 < x := by clear hp; grind
  have n1 : x < 1 := by clear hp; grind
  have W := p2_pos (p + 40)
  have lP := lim_len_p2 (n := 2 ^ (p + 40)) (Nat.le_refl _) (by omega)
  by_cases hh : x + x ≤ 1
  · obtain ⟨A, B, C, D, V, f, lA, lB, fc, lC, lD, w1, w2, w3, ed⟩ := tells_core (a := a) (b := b) (p := p) zx (by omega) (by omega) ha ha2 hb hb2 hp2 h0 hh hv
    have i1 := incb_I_loP hp hv (by omega) (by omega) ha ha2 hb hb2 hp2 n0 hh f ⟨lA, lB⟩
    have i2 := ref12_I_lo hv (by omega) (by omega) ha ha2 hb hb2 hp2 n0 hh fc lC lD
    obtain ⟨z1, z2⟩ := told_sz (p := p) hp2 lA lB
    have m1 : mkRat (C : Int) (2 ^ (p + 40)) ≤ V := le_by W (by rw [mk_p2n]; exact ed.1)
    have m2 : V ≤ mkRat (D : Int) (2 ^ (p + 40)) := le_by W (by rw [mk_p2n]; exact ed.2)
    exact ⟨_, _, _, _, i1, i2, szR_mono z1 (by omega), szR_mono z2 (by omega), doc_sz (by rw [Int.natAbs_natCast]; omega) (by omega), doc_sz (by rw [Int.natAbs_natCast]; omega) (by omega), Rat.le_trans w1 w2, Rat.le_trans m1 w2, Rat.le_trans w1 m2, w3⟩
  · have hh' : 1 < x + x := by clear hp; grind
    have zy := szR_sub one_szR' zx (by omega)
    obtain ⟨A, B, C, D, V, f, lA, lB, fc, lC, lD, w1, w2, w3, ed⟩ := tells_core (x := 1 - x) (a := b) (b := a) (p := p) zy (by omega) (by omega) hb hb2 ha ha2 hp2 (by clear hp; grind) (by clear hp; grind) (RatA_rv zy)
    have i1 := incb_I_hiP hp hv (by omega) (by omega) ha ha2 hb hb2 hp2 hh' n1 f ⟨lA, lB⟩
    have i2 := ref12_I_hi hv (by omega) (by omega) ha ha2 hb hb2 hp2 hh' n1 fc lC lD
    obtain ⟨z1, z2⟩ := told_sz (p := p) hp2 lA lB
    have mk : ∀ E : Nat, mkRat (((2 ^ (p + 40) : Nat) : Int) - (E : Int)) (2 ^ (p + 40)) * p2 (p + 40) = p2 (p + 40) - (E : Rat) := by
      intro E
      rw [mk_mulP _ (Nat.pow_pos (by omega)), Rat.intCast_sub]
      rfl
    have m1 : mkRat (((2 ^ (p + 40) : Nat) : Int) - (D : Int)) (2 ^ (p + 40)) ≤ 1 - V := le_by W (by rw [mk]; have := ed.2; clear f fc i1 i2 w1 w2 w3; grind)
    have m2 : 1 - V ≤ mkRat (((2 ^ (p + 40) : Nat) : Int) - (C : Int)) (2 ^ (p + 40)) := le_by W (by rw [mk]; have := ed.1; clear f fc i1 i2 w1 w2 w3 m1; grind)
    have la := lim_len_add (a := 2 ^ (p + 40)) (b := C) (L := 190) (by omega) (by omega)
    have lb := lim_len_add (a := 2 ^ (p + 40)) (b := D) (L := 190) (by omega) (by omega)
    refine ⟨_, _, _, _, i1, i2, szR_mono (szR_sub one_szR' z2 (by omega)) (by omega), szR_mono (szR_sub one_szR' z1 (by omega)) (by omega), doc_sz (Nat.le_trans (lim_len_mono (sub_abs _ D)) (by omega)) (by omega), doc_sz (Nat.le_trans (lim_len_mono (sub_abs _ C)) (by omega)) (by omega), ?_, ?_, ?_, ?_⟩
    all_goals clear f fc i1 i2 ed mk la lb
    all_goals
      generalize toldLo A p = q1 at *
      generalize toldHi B p = q2 at *
      generalize mkRat (((2 ^ (p + 40) : Nat) : Int) - (D : Int)) (2 ^ (p + 40)) = u1 at *
      generalize mkRat (((2 ^ (p + 40) : Nat) : Int) - (C : Int)) (2 ^ (p + 40)) = u2 at *
      clear W lP
    · grind
    · grind
    · grind
    · have e : 1 - q1 - (1 - q2) = q2 - q1 := by grind
      rw [e]; exact w3
end
section
variable {x : Rat} {a b p : Int} {s : Bool} {n d : List Nat}
set_option maxHeartbeats 2000000 in
theorem tells_out (hn : n.length ≤ 9223372036854775807) (hd : d.length ≤ 9223372036854775807) (ha : -9223372036854775808 ≤ a ∧ a < 9223372036854775808) (hb : -9223372036854775808 ≤ b ∧ b < 9223372036854775808) (hp : -9223372036854775808 ≤ p ∧ p < 9223372036854775808)
    (h : 3 < n.length ∨ 3 < d.length ∨ 80 < p ∨ (20 < a ∧ a < 250) ∨ (20 < b ∧ b < 250)) : Go.Ev.Fn CX 3 [.int .i64 a, .int .i64 b, ratV s n d, .int .i64 p] (.bool true) := by
  have bg := law12_big s n d hn hd
  by_cases c1 : 80 < p
  · generalize (decide (3 < n.length) || decide (3 < d.length)) = c at *
    cases c
    · refine Go.Ev.Fn.intro (fn := Tryz.f3) (body := (Tryz.f3).body.get!) (by kernel_rfl) (by kernel_rfl) (by kernel_rfl) (fun _ => rfl) (Nat.le_of_ble_eq_true (by kernel_rfl)) ?_; unfold Tryz.f3; simp only [Option.get!_some]
      repeat (first | (simp only [go_sem, Nat.reduceEqDiff, Nat.reduceAdd, Nat.reduceSub, Nat.reduceMul, Nat.reduceLeDiff, Nat.reduceLT, reduceIte, reduceCtorEq, Nat.succ_ne_zero, elemsC, Int.reduceToNat, Nat.reducePow]) | (simp (disch := (first | omega | (simp only [AL, List.length_map]; omega))) only [AR, AL, ifT, ifF, take_all, List.length_cons, List.length_nil, Int.reduceToNat, Int.reducePow, Nat.reducePow]) | (refine wk_intro (by kernel_rfl) ?_) | (refine vp_draw (id := 10) (l := []) (by kernel_rfl) ?_) | (refine vf_of (by first | exact bg) ?_))
    · refine Go.Ev.Fn.intro (fn := Tryz.f3) (body := (Tryz.f3).body.get!) (by kernel_rfl) (by kernel_rfl) (by kernel_rfl) (fun _ => rfl) (Nat.le_of_ble_eq_true (by kernel_rfl)) ?_; unfold Tryz.f3; simp only [Option.get!_some]
      repeat (first | (simp only [go_sem, Nat.reduceEqDiff, Nat.reduceAdd, Nat.reduceSub, Nat.reduceMul, Nat.reduceLeDiff, Nat.reduceLT, reduceIte, reduceCtorEq, Nat.succ_ne_zero, elemsC, Int.reduceToNat, Nat.reducePow]) | (simp (disch := (first | omega | (simp only [AL, List.length_map]; omega))) only [AR, AL, ifT, ifF, take_all, List.length_cons, List.length_nil, Int.reduceToNat, Int.reducePow, Nat.reducePow]) | (refine wk_intro (by kernel_rfl) ?_) | (refine vp_draw (id := 10) (l := []) (by kernel_rfl) ?_) | (refine vf_of (by first | exact bg) ?_))
  by_cases c2 : 20 < a ∧ a < 250
  · generalize (decide (3 < n.length) || decide (3 < d.length)) = c at *
    cases c
    · refine Go.Ev.Fn.intro (fn := Tryz.f3) (body := (Tryz.f3).body.get!) (by kernel_rfl) (by kernel_rfl) (by kernel_rfl) (fun _ => rfl) (Nat.le_of_ble_eq_true (by kernel_rfl)) ?_; unfold Tryz.f3; simp only [Option.get!_some]
      repeat (first | (simp only [go_sem, Nat.reduceEqDiff, Nat.reduceAdd, Nat.reduceSub, Nat.reduceMul, Nat.reduceLeDiff, Nat.reduceLT, reduceIte, reduceCtorEq, Nat.succ_ne_zero, elemsC, Int.reduceToNat, Nat.reducePow]) | (simp (disch := (first | omega | (simp only [AL, List.length_map]; omega))) only [AR, AL, ifT, ifF, take_all, List.length_cons, List.length_nil, Int.reduceToNat, Int.reducePow, Nat.reducePow]) | (refine wk_intro (by kernel_rfl) ?_) | (refine vp_draw (id := 10) (l := []) (by kernel_rfl) ?_) | (refine vf_of (by first | exact bg) ?_))
    · refine Go.Ev.Fn.intro (fn := Tryz.f3) (body := (Tryz.f3).body.get!) (by kernel_rfl) (by kernel_rfl) (by kernel_rfl) (fun _ => rfl) (Nat.le_of_ble_eq_true (by kernel_rfl)) ?_; unfold Tryz.f3; simp only [Option.get!_some]
      repeat (first | (simp only [go_sem, Nat.reduceEqDiff, Nat.reduceAdd, Nat.reduceSub, Nat.reduceMul, Nat.reduceLeDiff, Nat.reduceLT, reduceIte, reduceCtorEq, Nat.succ_ne_zero, elemsC, Int.reduceToNat, Nat.reducePow]) | (simp (disch := (first | omega | (simp only [AL, List.length_map]; omega))) only [AR, AL, ifT, ifF, take_all, List.length_cons, List.length_nil, Int.reduceToNat, Int.reducePow, Nat.reducePow]) | (refine wk_intro (by kernel_rfl) ?_) | (refine vp_draw (id := 10) (l := []) (by kernel_rfl) ?_) | (refine vf_of (by first | exact bg) ?_))
  by_cases c3 : 20 < b ∧ b < 250
  · generalize (decide (3 < n.length) || decide (3 < d.length)) = c at *
    by_cases c4 : 20 < a
    · cases c
      · refine Go.Ev.Fn.intro (fn := Tryz.f3) (body := (Tryz.f3).body.get!) (by kernel_rfl) (by kernel_rfl) (by kernel_rfl) (fun _ => rfl) (Nat.le_of_ble_eq_true (by kernel_rfl)) ?_; unfold Tryz.f3; simp only [Option.get!_some]
        repeat (first | (simp only [go_sem, Nat.reduceEqDiff, Nat.reduceAdd, Nat.reduceSub, Nat.reduceMul, Nat.reduceLeDiff, Nat.reduceLT, reduceIte, reduceCtorEq, Nat.succ_ne_zero, elemsC, Int.reduceToNat, Nat.reducePow]) | (simp (disch := (first | omega | (simp only [AL, List.length_map]; omega))) only [AR, AL, ifT, ifF, take_all, List.length_cons, List.length_nil, Int.reduceToNat, Int.reducePow, Nat.reducePow]) | (refine wk_intro (by kernel_rfl) ?_) | (refine vp_draw (id := 10) (l := []) (by kernel_rfl) ?_) | (refine vf_of (by first | exact bg) ?_))
      · refine Go.Ev.Fn.intro (fn := Tryz.f3) (body := (Tryz.f3).body.get!) (by kernel_rfl) (by kernel_rfl) (by kernel_rfl) (fun _ => rfl) (Nat.le_of_ble_eq_true (by kernel_rfl)) ?_; unfold Tryz.f3; simp only [Option.get!_some]
        repeat (first | (simp only [go_sem, Nat.reduceEqDiff, Nat.reduceAdd, Nat.reduceSub, Nat.reduceMul, Nat.reduceLeDiff, Nat.reduceLT, reduceIte, reduceCtorEq, Nat.succ_ne_zero, elemsC, Int.reduceToNat, Nat.reducePow]) | (simp (disch := (first | omega | (simp only [AL, List.length_map]; omega))) only [AR, AL, ifT, ifF, take_all, List.length_cons, List.length_nil, Int.reduceToNat, Int.reducePow, Nat.reducePow]) | (refine wk_intro (by kernel_rfl) ?_) | (refine vp_draw (id := 10) (l := []) (by kernel_rfl) ?_) | (refine vf_of (by first | exact bg) ?_))
    · cases c
      · refine Go.Ev.Fn.intro (fn := Tryz.f3) (body := (Tryz.f3).body.get!) (by kernel_rfl) (by kernel_rfl) (by kernel_rfl) (fun _ => rfl) (Nat.le_of_ble_eq_true (by kernel_rfl)) ?_; unfold Tryz.f3; simp only [Option.get!_some]
        repeat (first | (simp only [go_sem, Nat.reduceEqDiff, Nat.reduceAdd, Nat.reduceSub, Nat.reduceMul, Nat.reduceLeDiff, Nat.reduceLT, reduceIte, reduceCtorEq, Nat.succ_ne_zero, elemsC, Int.reduceToNat, Nat.reducePow]) | (simp (disch := (first | omega | (simp only [AL, List.length_map]; omega))) only [AR, AL, ifT, ifF, take_all, List.length_cons, List.length_nil, Int.reduceToNat, Int.reducePow, Nat.reducePow]) | (refine wk_intro (by kernel_rfl) ?_) | (refine vp_draw (id := 10) (l := []) (by kernel_rfl) ?_) | (refine vf_of (by first | exact bg) ?_))
      · refine Go.Ev.Fn.intro (fn := Tryz.f3) (body := (Tryz.f3).body.get!) (by kernel_rfl) (by kernel_rfl) (by kernel_rfl) (fun _ => rfl) (Nat.le_of_ble_eq_true (by kernel_rfl)) ?_; unfold Tryz.f3; simp only [Option.get!_some]
        repeat (first | (simp only [go_sem, Nat.reduceEqDiff, Nat.reduceAdd, Nat.reduceSub, Nat.reduceMul, Nat.reduceLeDiff, Nat.reduceLT, reduceIte, reduceCtorEq, Nat.succ_ne_zero, elemsC, Int.reduceToNat, Nat.reducePow]) | (simp (disch := (first | omega | (simp only [AL, List.length_map]; omega))) only [AR, AL, ifT, ifF, take_all, List.length_cons, List.length_nil, Int.reduceToNat, Int.reducePow, Nat.reducePow]) | (refine wk_intro (by kernel_rfl) ?_) | (refine vp_draw (id := 10) (l := []) (by kernel_rfl) ?_) | (refine vf_of (by first | exact bg) ?_))
  · rw [show (decide (3 < n.length) || decide (3 < d.length)) = true by rcases h with h | h | h | h | h; (rw [decide_eq_true h, Bool.true_or]); (rw [decide_eq_true h, Bool.or_true]); omega; omega; omega] at bg
    refine Go.Ev.Fn.intro (fn := Tryz.f3) (body := (Tryz.f3).body.get!) (by kernel_rfl) (by kernel_rfl) (by kernel_rfl) (fun _ => rfl) (Nat.le_of_ble_eq_true (by kernel_rfl)) ?_; unfold Tryz.f3; simp only [Option.get!_some]
    repeat (first | (simp only [go_sem, Nat.reduceEqDiff, Nat.reduceAdd, Nat.reduceSub, Nat.reduceMul, Nat.reduceLeDiff, Nat.reduceLT, reduceIte, reduceCtorEq, Nat.succ_ne_zero, elemsC, Int.reduceToNat, Nat.reducePow]) | (simp (disch := (first | omega | (simp only [AL, List.length_map]; omega))) only [AR, AL, ifT, ifF, take_all, List.length_cons, List.length_nil, Int.reduceToNat, Int.reducePow, Nat.reducePow]) | (refine wk_intro (by kernel_rfl) ?_) | (refine vp_draw (id := 10) (l := []) (by kernel_rfl) ?_) | (refine vf_of (by first | exact bg) ?_))
set_option maxHeartbeats 2000000 in
/-- Shapes near the greatest one. -/
theorem tells_near (h1 : n.length ≤ 3) (h2 : d.length ≤ 3) (ha : -9223372036854775808 ≤ a ∧ a < 9223372036854775808) (hb : -9223372036854775808 ≤ b ∧ b < 9223372036854775808) (hp : -9223372036854775808 ≤ p ∧ p ≤ 80) (ha2 : a ≤ 20 ∨ 250 ≤ a) (hb2 : b ≤ 20 ∨ 250 ≤ b)
    (h : (250 ≤ a ∧ a ≤ 256) ∨ (250 ≤ b ∧ b ≤ 256)) : Go.Ev.Fn CX 3 [.int .i64 a, .int .i64 b, ratV s n d, .int .i64 p] (.bool true) := by
  have bg := law12_big s n d (by omega) (by omega)
  rw [decide_eq_false (by omega), decide_eq_false (by omega), Bool.or_false] at bg
  have kn := known12
  by_cases a1 : 250 ≤ a
  · by_cases a2 : a ≤ 256
    · by_cases b1 : 250 ≤ b
      · refine Go.Ev.Fn.intro (fn := Tryz.f3) (body := (Tryz.f3).body.get!) (by kernel_rfl) (by kernel_rfl) (by kernel_rfl) (fun _ => rfl) (Nat.le_of_ble_eq_true (by kernel_rfl)) ?_; unfold Tryz.f3; simp only [Option.get!_some]
        repeat (first | (simp only [go_sem, Nat.reduceEqDiff, Nat.reduceAdd, Nat.reduceSub, Nat.reduceMul, Nat.reduceLeDiff, Nat.reduceLT, reduceIte, reduceCtorEq, Nat.succ_ne_zero, elemsC, Int.reduceToNat, Nat.reducePow]) | (simp (disch := (first | omega | (simp only [AL, List.length_map]; omega))) only [AR, AL, ifT, ifF, take_all, List.length_cons, List.length_nil, Int.reduceToNat, Int.reducePow, Nat.reducePow]) | (refine wk_intro (by kernel_rfl) ?_) | (refine vp_draw (id := 10) (l := []) (by kernel_rfl) ?_) | (refine vf_of (by first | exact bg | exact kn) ?_))
      · refine Go.Ev.Fn.intro (fn := Tryz.f3) (body := (Tryz.f3).body.get!) (by kernel_rfl) (by kernel_rfl) (by kernel_rfl) (fun _ => rfl) (Nat.le_of_ble_eq_true (by kernel_rfl)) ?_; unfold Tryz.f3; simp only [Option.get!_some]
        repeat (first | (simp only [go_sem, Nat.reduceEqDiff, Nat.reduceAdd, Nat.reduceSub, Nat.reduceMul, Nat.reduceLeDiff, Nat.reduceLT, reduceIte, reduceCtorEq, Nat.succ_ne_zero, elemsC, Int.reduceToNat, Nat.reducePow]) | (simp (disch := (first | omega | (simp only [AL, List.length_map]; omega))) only [AR, AL, ifT, ifF, take_all, List.length_cons, List.length_nil, Int.reduceToNat, Int.reducePow, Nat.reducePow]) | (refine wk_intro (by kernel_rfl) ?_) | (refine vp_draw (id := 10) (l := []) (by kernel_rfl) ?_) | (refine vf_of (by first | exact bg | exact kn) ?_))
    · refine Go.Ev.Fn.intro (fn := Tryz.f3) (body := (Tryz.f3).body.get!) (by kernel_rfl) (by kernel_rfl) (by kernel_rfl) (fun _ => rfl) (Nat.le_of_ble_eq_true (by kernel_rfl)) ?_; unfold Tryz.f3; simp only [Option.get!_some]
      repeat (first | (simp only [go_sem, Nat.reduceEqDiff, Nat.reduceAdd, Nat.reduceSub, Nat.reduceMul, Nat.reduceLeDiff, Nat.reduceLT, reduceIte, reduceCtorEq, Nat.succ_ne_zero, elemsC, Int.reduceToNat, Nat.reducePow]) | (simp (disch := (first | omega | (simp only [AL, List.length_map]; omega))) only [AR, AL, ifT, ifF, take_all, List.length_cons, List.length_nil, Int.reduceToNat, Int.reducePow, Nat.reducePow]) | (refine wk_intro (by kernel_rfl) ?_) | (refine vp_draw (id := 10) (l := []) (by kernel_rfl) ?_) | (refine vf_of (by first | exact bg | exact kn) ?_))
  · refine Go.Ev.Fn.intro (fn := Tryz.f3) (body := (Tryz.f3).body.get!) (by kernel_rfl) (by kernel_rfl) (by kernel_rfl) (fun _ => rfl) (Nat.le_of_ble_eq_true (by kernel_rfl)) ?_; unfold Tryz.f3; simp only [Option.get!_some]
    repeat (first | (simp only [go_sem, Nat.reduceEqDiff, Nat.reduceAdd, Nat.reduceSub, Nat.reduceMul, Nat.reduceLeDiff, Nat.reduceLT, reduceIte, reduceCtorEq, Nat.succ_ne_zero, elemsC, Int.reduceToNat, Nat.reducePow]) | (simp (disch := (first | omega | (simp only [AL, List.length_map]; omega))) only [AR, AL, ifT, ifF, take_all, List.length_cons, List.length_nil, Int.reduceToNat, Int.reducePow, Nat.reducePow]) | (refine wk_intro (by kernel_rfl) ?_) | (refine vp_draw (id := 10) (l := []) (by kernel_rfl) ?_) | (refine vf_of (by first | exact bg | exact kn) ?_))
set_option maxHeartbeats 2000000 in
/-- Outside both are not told. -/
theorem tells_bad {z : Rat} (hz : ((0 : Int) : Rat) = z) (h1 : n.length ≤ 3) (h2 : d.length ≤ 3) (ha : -9223372036854775808 ≤ a ∧ a < 9223372036854775808) (hb : -9223372036854775808 ≤ b ∧ b < 9223372036854775808) (hp : -9223372036854775808 ≤ p ∧ p ≤ 80) (ha2 : a ≤ 20 ∨ 256 < a) (hb2 : b ≤ 20 ∨ 256 < b)
    (f1 : Go.Ev.Fn CX 8 [.int .i64 a, .int .i64 b, ratV s n d, .int .i64 p] (.tup [ballR z z, .bool false]))
    (f2 : ∀ q : Int, Go.Ev.Fn CX 9 [.int .i64 a, .int .i64 b, ratV s n d, .int .i64 q] (.tup [ballR z z, .bool false])) :
    Go.Ev.Fn CX 3 [.int .i64 a, .int .i64 b, ratV s n d, .int .i64 p] (.bool true) := by
  have bg := law12_big s n d (by omega) (by omega)
  rw [decide_eq_false (by omega), decide_eq_false (by omega), Bool.or_false] at bg
  have kn := known12
  have i0 := ref2_Int 0 (by omega)
  have zr : szR ((0 : Int) : Rat) 2 := int_szR (by omega)
  have o := ref4_Of (RatA_rv zr) (by omega)
  rw [hz] at i0 o zr
  have sm := ref4_Same (a := z) (b := z) zr zr (by omega) (by omega)
  obtain ⟨P, hP⟩ : ∃ P : Int, (if (0 : Int) > p then (0 : Int) else p) = P := ⟨_, rfl⟩
  have hP2 : 0 ≤ P ∧ P ≤ 80 := by rw [← hP]; split <;> omega
  have f2' := f2 (P + 20)
  clear hz
  have fb : (!(false == false)) = false := rfl
  by_cases a1 : 250 ≤ a
  · by_cases b1 : 250 ≤ b
    · refine Go.Ev.Fn.intro (fn := Tryz.f3) (body := (Tryz.f3).body.get!) (by kernel_rfl) (by kernel_rfl) (by kernel_rfl) (fun _ => rfl) (Nat.le_of_ble_eq_true (by kernel_rfl)) ?_; unfold Tryz.f3; simp only [Option.get!_some]
      repeat (first | (simp only [go_sem, Nat.reduceEqDiff, Nat.reduceAdd, Nat.reduceSub, Nat.reduceMul, Nat.reduceLeDiff, Nat.reduceLT, reduceIte, reduceCtorEq, Nat.succ_ne_zero, elemsC, Int.reduceToNat, Nat.reducePow, hP, fb, Bool.not_false]) | (simp (disch := (first | omega | (simp only [AL, List.length_map]; omega))) only [AR, AL, ifT, ifF, take_all, List.length_cons, List.length_nil, Int.reduceToNat, Int.reducePow, Nat.reducePow, hP, fb, Bool.not_false]) | (refine wk_intro (by kernel_rfl) ?_) | (refine vp_draw (id := 10) (l := []) (by kernel_rfl) ?_) | (refine vf_of (by first | exact bg | exact f1 | exact f2' | exact i0 | exact o | exact sm | exact kn) ?_))
    · refine Go.Ev.Fn.intro (fn := Tryz.f3) (body := (Tryz.f3).body.get!) (by kernel_rfl) (by kernel_rfl) (by kernel_rfl) (fun _ => rfl) (Nat.le_of_ble_eq_true (by kernel_rfl)) ?_; unfold Tryz.f3; simp only [Option.get!_some]
      repeat (first | (simp only [go_sem, Nat.reduceEqDiff, Nat.reduceAdd, Nat.reduceSub, Nat.reduceMul, Nat.reduceLeDiff, Nat.reduceLT, reduceIte, reduceCtorEq, Nat.succ_ne_zero, elemsC, Int.reduceToNat, Nat.reducePow, hP, fb, Bool.not_false]) | (simp (disch := (first | omega | (simp only [AL, List.length_map]; omega))) only [AR, AL, ifT, ifF, take_all, List.length_cons, List.length_nil, Int.reduceToNat, Int.reducePow, Nat.reducePow, hP, fb, Bool.not_false]) | (refine wk_intro (by kernel_rfl) ?_) | (refine vp_draw (id := 10) (l := []) (by kernel_rfl) ?_) | (refine vf_of (by first | exact bg | exact f1 | exact f2' | exact i0 | exact o | exact sm | exact kn) ?_))
  · by_cases b1 : 250 ≤ b
    · refine Go.Ev.Fn.intro (fn := Tryz.f3) (body := (Tryz.f3).body.get!) (by kernel_rfl) (by kernel_rfl) (by kernel_rfl) (fun _ => rfl) (Nat.le_of_ble_eq_true (by kernel_rfl)) ?_; unfold Tryz.f3; simp only [Option.get!_some]
      repeat (first | (simp only [go_sem, Nat.reduceEqDiff, Nat.reduceAdd, Nat.reduceSub, Nat.reduceMul, Nat.reduceLeDiff, Nat.reduceLT, reduceIte, reduceCtorEq, Nat.succ_ne_zero, elemsC, Int.reduceToNat, Nat.reducePow, hP, fb, Bool.not_false]) | (simp (disch := (first | omega | (simp only [AL, List.length_map]; omega))) only [AR, AL, ifT, ifF, take_all, List.length_cons, List.length_nil, Int.reduceToNat, Int.reducePow, Nat.reducePow, hP, fb, Bool.not_false]) | (refine wk_intro (by kernel_rfl) ?_) | (refine vp_draw (id := 10) (l := []) (by kernel_rfl) ?_) | (refine vf_of (by first | exact bg | exact f1 | exact f2' | exact i0 | exact o | exact sm | exact kn) ?_))
    · refine Go.Ev.Fn.intro (fn := Tryz.f3) (body := (Tryz.f3).body.get!) (by kernel_rfl) (by kernel_rfl) (by kernel_rfl) (fun _ => rfl) (Nat.le_of_ble_eq_true (by kernel_rfl)) ?_; unfold Tryz.f3; simp only [Option.get!_some]
      repeat (first | (simp only [go_sem, Nat.reduceEqDiff, Nat.reduceAdd, Nat.reduceSub, Nat.reduceMul, Nat.reduceLeDiff, Nat.reduceLT, reduceIte, reduceCtorEq, Nat.succ_ne_zero, elemsC, Int.reduceToNat, Nat.reducePow, hP, fb, Bool.not_false]) | (simp (disch := (first | omega | (simp only [AL, List.length_map]; omega))) only [AR, AL, ifT, ifF, take_all, List.length_cons, List.length_nil, Int.reduceToNat, Int.reducePow, Nat.reducePow, hP, fb, Bool.not_false]) | (refine wk_intro (by kernel_rfl) ?_) | (refine vp_draw (id := 10) (l := []) (by kernel_rfl) ?_) | (refine vf_of (by first | exact bg | exact f1 | exact f2' | exact i0 | exact o | exact sm | exact kn) ?_))
set_option maxHeartbeats 2000000 in
theorem tells_good {A B P : Nat} (hv : RatA (ratV s n d) x 3) (h1 : n.length ≤ 3) (h2 : d.length ≤ 3) (ha : 1 ≤ A) (ha2 : A ≤ 20) (hb : 1 ≤ B) (hb2 : B ≤ 20) (hp : (p ≤ 0 ∧ P = 0) ∨ p = (P : Int)) (hp1 : -9223372036854775808 ≤ p) (hp2 : P ≤ 80) (g0 : 0 ≤ x) (g1 : x ≤ 1) :
    Go.Ev.Fn CX 3 [.int .i64 (A : Int), .int .i64 (B : Int), ratV s n d, .int .i64 p] (.bool true) := by
  have bg := law12_big s n d (by omega) (by omega)
  rw [decide_eq_false (by omega), decide_eq_false (by omega), Bool.or_false] at bg
  have kn := known12
  obtain ⟨l, h, c, e, f1, f2, z1, z2, z3, z4, k1, k2, k3, k4⟩ := tells_balls hv ha ha2 hb hb2 hp hp2 g0 g1
  have gd := ref4_Good hp (by omega) z1 z2 z3 z4 (by omega) (by omega) (by omega) k1 k2 k3 k4
  have hP : (if (0 : Int) > p then (0 : Int) else p) = (P : Int) := by split <;> omega
  clear k1 k2 k3 k4 g0 g1
  have fb : (!(true == true)) = false := rfl
  refine Go.Ev.Fn.intro (fn := Tryz.f3) (body := (Tryz.f3).body.get!) (by kernel_rfl) (by kernel_rfl) (by kernel_rfl) (fun _ => rfl) (Nat.le_of_ble_eq_true (by kernel_rfl)) ?_; unfold Tryz.f3; simp only [Option.get!_some]
  repeat (first | (simp only [go_sem, Nat.reduceEqDiff, Nat.reduceAdd, Nat.reduceSub, Nat.reduceMul, Nat.reduceLeDiff, Nat.reduceLT, reduceIte, reduceCtorEq, Nat.succ_ne_zero, elemsC, Int.reduceToNat, Nat.reducePow, hP, fb, Bool.not_true]) | (simp (disch := (first | omega | (simp only [AL, List.length_map]; omega))) only [AR, AL, ifT, ifF, take_all, List.length_cons, List.length_nil, Int.reduceToNat, Int.reducePow, Nat.reducePow, hP, fb, Bool.not_true]) | (refine wk_intro (by kernel_rfl) ?_) | (refine vp_draw (id := 10) (l := []) (by kernel_rfl) ?_) | (refine vf_of (by first | exact bg | exact f1 | exact f2 | exact gd | exact kn) ?_))
end
set_option maxRecDepth 100000 in
theorem tells_law (a : Int) (w0 : (Lit.int .i64 a).wf = true) (b : Int) (w1 : (Lit.int .i64 b).wf = true) (ss2 : List SV) (sh2 : ShpT Tryz.prog 6 24 ss2) (p : Int) (w3 : (Lit.int .i64 p).wf = true) :
    Go.Ev.Fn CX 3 [.int .i64 a, .int .i64 b, .agg ss2, .int .i64 p] (.bool true) := by
  obtain ⟨s, nm, dm, rfl, hn, hd, ln, ld⟩ := shp_rat (n := 3) sh2
  have r0 := wf_int64D w0
  have r1 := wf_int64D w1
  have r3 := wf_int64D w3
  have m1 := Nat.le_trans ln (show maxLen ≤ 9223372036854775807 by decide)
  have m2 := Nat.le_trans ld (show maxLen ≤ 9223372036854775807 by decide)
  by_cases c : nm.length ≤ 3 ∧ dm.length ≤ 3 ∧ p ≤ 80 ∧ (a ≤ 20 ∨ 250 ≤ a) ∧ (b ≤ 20 ∨ 250 ≤ b)
  · obtain ⟨c1, c2, c3, c4, c5⟩ := c
    obtain ⟨x, hx⟩ : ∃ x : Rat, RatA (ratV s nm dm) x 3 := ⟨_, s, nm, dm, rfl, hn, hd, c1, c2, rfl⟩
    by_cases near : (250 ≤ a ∧ a ≤ 256) ∨ (250 ≤ b ∧ b ≤ 256)
    · exact tells_near c1 c2 r0 r1 ⟨r3.1, c3⟩ c4 c5 near
    by_cases big : a < 1 ∨ b < 1 ∨ 256 < a ∨ 256 < b
    · exact tells_bad rfl c1 c2 r0 r1 ⟨r3.1, c3⟩ (by omega) (by omega) (incb_I_big hx (by omega) (by omega) r0 r1 big) (fun q => ref12_I_big hx r0 r1 big)
    by_cases bad : x < 0 ∨ 1 < x
    · exact tells_bad rfl c1 c2 r0 r1 ⟨r3.1, c3⟩ (by omega) (by omega) (incb_I_bad hx (by omega) (by omega) (by omega) (by omega) (.inr (.inr bad))) (fun q => ref12_I_bad hx (by omega) (by omega) (by omega) (by omega) (.inr (.inr bad)))
    · have g1 : 0 ≤ x := Rat.not_lt.1 fun g => bad (.inl g)
      have g2 : x ≤ 1 := Rat.not_lt.1 fun g => bad (.inr g)
      obtain ⟨P, hP, hP2⟩ : ∃ P : Nat, ((p ≤ 0 ∧ P = 0) ∨ p = (P : Int)) ∧ P ≤ 80 := by
        by_cases g : p ≤ 0
        · exact ⟨0, .inl ⟨g, rfl⟩, by omega⟩
        · exact ⟨p.toNat, .inr (by omega), by omega⟩
      obtain ⟨A, rfl⟩ : ∃ K : Nat, a = (K : Int) := ⟨a.toNat, by omega⟩
      obtain ⟨B, rfl⟩ : ∃ N : Nat, b = (N : Int) := ⟨b.toNat, by omega⟩
      exact tells_good hx c1 c2 (by omega) (by omega) (by omega) (by omega) hP r3.1 hP2 g1 g2
  · exact tells_out m1 m2 r0 r1 r3 (by omega)
end Go.Proofs.YtigiblhmhmgagaaGreat
