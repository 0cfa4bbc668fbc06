/- Part 10 of the proof: the evaluator, contracts of functions and their plain laws (joined by program). No condition. -/
import Derived.Test.YtemnjalaincijaaGreatPart9
set_option linter.unusedVariables false
set_option linter.unusedSimpArgs false
set_option maxRecDepth 100000
namespace Go.Proofs.YtemnjalaincijaaGreat
open Go.Ev
def dRow (w Y1 Y2 : Nat) (y : Rat) : Nat → Nat → Nat → Nat → Nat → Nat → Option (Nat × Nat)
  | 0, _, _, _, _, _ => none
  | f + 1, k, t1, t2, s1, s2 => if cdv (cdv (t2 * Y2) (2 ^ w)) k ≤ 2 ∧ y + y ≤ ((k + 2 : Nat) : Rat) then some (s1 + t1 * Y1 / 2 ^ w / k - 8, s2 + cdv (cdv (t2 * Y2) (2 ^ w)) k + 8) else
      dRow w Y1 Y2 y f (k + 2) (t1 * Y1 / 2 ^ w / k) (cdv (cdv (t2 * Y2) (2 ^ w)) k) (s1 + t1 * Y1 / 2 ^ w / k) (s2 + cdv (cdv (t2 * Y2) (2 ^ w)) k)
def dInv (w k0 i k t1 t2 s1 s2 : Nat) : Prop := k = k0 + 2 * i ∧ t1 ≤ t2 ∧ t2 ≤ 2 ^ (w + 7 * min i 128) ∧ 2 ^ w ≤ s1 ∧ s1 ≤ s2 ∧ s2 ≤ (i + 1) * 2 ^ (w + 896)
theorem dInv_0 (w k0 : Nat) : dInv w k0 0 k0 (2 ^ w) (2 ^ w) (2 ^ w) (2 ^ w) := by
  have : 2 ^ w ≤ 2 ^ (w + 896) := Nat.pow_le_pow_right (by omega) (by omega)
  exact ⟨by omega, by omega, by rw [Nat.zero_min, Nat.mul_zero, Nat.add_zero]; omega, by omega, by omega, by omega⟩
theorem dStep_le {w Y2 k t2 : Nat} (hY : Y2 ≤ 2 ^ w * 128) (hk : 1 ≤ k) : cdv (cdv (t2 * Y2) (2 ^ w)) k ≤ t2 * 128 ∧ (256 ≤ k → 2 * cdv (cdv (t2 * Y2) (2 ^ w)) k ≤ t2 + 1) := by
  have P : 0 < 2 ^ w := Nat.pow_pos (by omega)
  have a : cdv (t2 * Y2) (2 ^ w) ≤ t2 * 128 := cdv_le P (by
    have m := Nat.mul_le_mul_left t2 hY
    rw [Nat.mul_comm (2 ^ w), ← Nat.mul_assoc] at m; exact m)
  refine ⟨Nat.le_trans (cdv_self _ hk) a, fun g => ?_⟩
  have b : cdv (cdv (t2 * Y2) (2 ^ w)) k ≤ (t2 + 1) / 2 := cdv_le hk (by
    have h : t2 ≤ (t2 + 1) / 2 * 2 := by omega
    have m := Nat.mul_le_mul_left ((t2 + 1) / 2) g
    omega)
  omega
theorem dInv_step {w Y1 Y2 k0 i k t1 t2 s1 s2 : Nat} (hY : Y2 ≤ 2 ^ w * 128) (h12 : Y1 ≤ Y2) (hk0 : 1 ≤ k0) (h : dInv w k0 i k t1 t2 s1 s2) :
    dInv w k0 (i + 1) (k + 2) (t1 * Y1 / 2 ^ w / k) (cdv (cdv (t2 * Y2) (2 ^ w)) k) (s1 + t1 * Y1 / 2 ^ w / k) (s2 + cdv (cdv (t2 * Y2) (2 ^ w)) k) := by
  obtain ⟨h1, h2, h3, h4, h5, h6⟩ := h
  have P : 0 < 2 ^ w := Nat.pow_pos (by omega)
  have hk : 0 < k := by omega
  obtain ⟨u1, u2⟩ := dStep_le (t2 := t2) hY hk
  have u12 : t1 * Y1 / 2 ^ w / k ≤ cdv (cdv (t2 * Y2) (2 ^ w)) k := div_le_cdv hk (div_le_cdv P (Nat.mul_le_mul h2 h12))
  generalize t1 * Y1 / 2 ^ w / k = x at *
  generalize cdv (cdv (t2 * Y2) (2 ^ w)) k = z at *
  have nt : z ≤ 2 ^ (w + 7 * min (i + 1) 128) := by
    by_cases hi : i < 128
    · rw [show min (i + 1) 128 = min i 128 + 1 by omega, show w + 7 * (min i 128 + 1) = (w + 7 * min i 128) + 7 by omega, Nat.pow_add _ _ 7, show (2 : Nat) ^ 7 = 128 from rfl]
      omega
    · rw [show min (i + 1) 128 = min i 128 by omega]
      have : 2 ^ 0 ≤ 2 ^ (w + 7 * min i 128) := Nat.pow_le_pow_right (by omega) (by omega)
      have := u2 (by omega)
      omega
  have up : 2 ^ (w + 7 * min (i + 1) 128) ≤ 2 ^ (w + 896) := Nat.pow_le_pow_right (by omega) (by omega)
  refine ⟨by omega, u12, nt, by omega, by omega, ?_⟩
  rw [Nat.add_mul (i + 1) 1, Nat.one_mul]
  omega
theorem two_le {y c : Rat} (h : y ≤ 128) (g : 256 ≤ c) : y + y ≤ c := by grind
theorem dbl_two (x : Rat) : x * 2 = x + x := by grind
theorem dRow_low {w Y1 Y2 k0 : Nat} {y : Rat} (hY : Y2 ≤ 2 ^ w * 128) (h12 : Y1 ≤ Y2) (hk0 : 1 ≤ k0) (hy : y ≤ 128) (hw : 8 ≤ 2 ^ w) : ∀ (m f i k t1 t2 s1 s2 : Nat), dInv w k0 i k t1 t2 s1 s2 → 256 ≤ k → t2 ≤ 2 ^ m + 1 → m + 1 ≤ f → ∃ A B, dRow w Y1 Y2 y f k t1 t2 s1 s2 = some (A, B) ∧ A ≤ B ∧ B ≤ (i + m + 3) * 2 ^ (w + 896) := by
  have fin : ∀ i k t1 t2 s1 s2 : Nat, dInv w k0 i k t1 t2 s1 s2 → s1 - 8 ≤ s2 + 8 ∧ s2 + 8 ≤ (i + 2) * 2 ^ (w + 896) := by
    intro i k t1 t2 s1 s2 h
    obtain ⟨h1, h2, h3, h4, h5, h6⟩ := h
    have : 2 ^ w ≤ 2 ^ (w + 896) := Nat.pow_le_pow_right (by omega) (by omega)
    refine ⟨by omega, ?_⟩
    rw [show i + 2 = i + 1 + 1 by omega, Nat.add_mul (i + 1) 1]
    omega
  have late : ∀ k : Nat, 256 ≤ k → y + y ≤ ((k + 2 : Nat) : Rat) := by
    intro k hk
    have c : ((256 : Nat) : Rat) ≤ ((k + 2 : Nat) : Rat) := Ex.castle (by omega)
    rw [show ((256 : Nat) : Rat) = 256 from rfl] at c
    exact two_le hy c
  intro m
  induction m with
  | zero =>
    intro f i k t1 t2 s1 s2 h hk ht hf
    obtain ⟨f, rfl⟩ : ∃ j, f = j + 1 := ⟨f - 1, by omega⟩
    have st := (dStep_le (t2 := t2) hY (show 1 ≤ k by omega)).2 hk
    have iv := dInv_step hY h12 hk0 h
    have : 2 ^ 0 = 1 := rfl
    rw [dRow, if_pos ⟨by omega, late k hk⟩]
    obtain ⟨q1, q2⟩ := fin _ _ _ _ _ _ iv
    exact ⟨_, _, rfl, q1, Nat.le_trans q2 (Nat.mul_le_mul_right _ (by omega))⟩
  | succ m ih =>
    intro f i k t1 t2 s1 s2 h hk ht hf
    obtain ⟨f, rfl⟩ : ∃ j, f = j + 1 := ⟨f - 1, by omega⟩
    have st := (dStep_le (t2 := t2) hY (show 1 ≤ k by omega)).2 hk
    have iv := dInv_step hY h12 hk0 h
    have e2 : 2 ^ (m + 1) = 2 ^ m * 2 := Nat.pow_succ _ _
    rw [dRow]
    by_cases g : cdv (cdv (t2 * Y2) (2 ^ w)) k ≤ 2 ∧ y + y ≤ ((k + 2 : Nat) : Rat)
    · rw [if_pos g]
      obtain ⟨q1, q2⟩ := fin _ _ _ _ _ _ iv
      exact ⟨_, _, rfl, q1, Nat.le_trans q2 (Nat.mul_le_mul_right _ (by omega))⟩
    · rw [if_neg g]
      obtain ⟨A, B, r1, r2, r3⟩ := ih f (i + 1) (k + 2) _ _ _ _ iv (by omega) (by omega) (by omega)
      exact ⟨A, B, r1, r2, by rw [show i + (m + 1) + 3 = i + 1 + m + 3 by omega]; exact r3⟩
theorem dRow_end {w Y1 Y2 k0 : Nat} {y : Rat} (hY : Y2 ≤ 2 ^ w * 128) (h12 : Y1 ≤ Y2) (hk0 : 1 ≤ k0) (hy : y ≤ 128) (hw : 8 ≤ 2 ^ w) (hw2 : w ≤ 1000) : ∀ (d f i k t1 t2 s1 s2 : Nat), dInv w k0 i k t1 t2 s1 s2 → 256 ≤ k + 2 * d → i + d ≤ 128 → d + 1900 ≤ f → ∃ A B, dRow w Y1 Y2 y f k t1 t2 s1 s2 = some (A, B) ∧ A ≤ B ∧ B ≤ 2 ^ (w + 908) := by
  have up : ∀ z B : Nat, z ≤ 4096 → B ≤ z * 2 ^ (w + 896) → B ≤ 2 ^ (w + 908) := by
    intro z B hz hB
    rw [show w + 908 = 12 + (w + 896) by omega, Nat.pow_add 2 12]
    exact Nat.le_trans hB (Nat.mul_le_mul_right _ hz)
  intro d
  induction d with
  | zero =>
    intro f i k t1 t2 s1 s2 h hk hi hf
    have h3 := h.2.2.1
    obtain ⟨m, hm⟩ : ∃ m : Nat, m = 1896 := ⟨_, rfl⟩
    obtain ⟨A, B, r1, r2, r3⟩ := dRow_low hY h12 hk0 hy hw m f i k t1 t2 s1 s2 h (by omega) (Nat.le_succ_of_le (Nat.le_trans h3 (Nat.pow_le_pow_right (by omega) (by omega)))) (by omega)
    exact ⟨A, B, r1, r2, up _ _ (by omega) r3⟩
  | succ d ih =>
    intro f i k t1 t2 s1 s2 h hk hi hf
    obtain ⟨f, rfl⟩ : ∃ j, f = j + 1 := ⟨f - 1, by omega⟩
    have iv := dInv_step hY h12 hk0 h
    rw [dRow]
    by_cases g : cdv (cdv (t2 * Y2) (2 ^ w)) k ≤ 2 ∧ y + y ≤ ((k + 2 : Nat) : Rat)
    · rw [if_pos g]
      obtain ⟨h1, h2, h3, h4, h5, h6⟩ := iv
      have : 2 ^ w ≤ 2 ^ (w + 896) := Nat.pow_le_pow_right (by omega) (by omega)
      refine ⟨_, _, rfl, by omega, up (i + 3) _ (by omega) ?_⟩
      rw [show i + 3 = i + 1 + 1 + 1 by omega, Nat.add_mul (i + 1 + 1) 1]
      omega
    · rw [if_neg g]
      exact ih f (i + 1) (k + 2) _ _ _ _ iv (by omega) (by omega) (by omega)
theorem dRow_enc {w Y1 Y2 k0 : Nat} {y : Rat} (hk0 : 1 ≤ k0) (hy : Enc w Y1 Y2 y) : ∀ (f i t1 t2 s1 s2 A B : Nat), dRow w Y1 Y2 y f (k0 + 2 * i) t1 t2 s1 s2 = some (A, B) → Enc w t1 t2 (tk y k0 i) → Enc w s1 s2 (sk y k0 (i + 1)) → ∃ s, ∀ L, s ≤ L → Enc w A B (sk y k0 L) := by
  have y0 := enc_nonneg hy
  have P := p2_pos w
  intro f
  induction f with
  | zero => intro i t1 t2 s1 s2 A B h; cases h
  | succ f ih =>
    intro i t1 t2 s1 s2 A B h ht hs
    have e1 := enc_byN (n := 1) (m := k0 + 2 * i) (by omega) (enc_prodN ht hy)
    rw [show tk y k0 i * y * ((1 : Nat) : Rat) / ((k0 + 2 * i : Nat) : Rat) = tk y k0 (i + 1) from rfl, Nat.mul_one, Nat.mul_one] at e1
    have e3 := enc_add hs e1
    rw [show sk y k0 (i + 1) + tk y k0 (i + 1) = sk y k0 (i + 1 + 1) from rfl] at e3
    rw [dRow] at h
    generalize t1 * Y1 / 2 ^ w / (k0 + 2 * i) = u1 at *
    generalize cdv (cdv (t2 * Y2) (2 ^ w)) (k0 + 2 * i) = u2 at *
    by_cases g : u2 ≤ 2 ∧ y + y ≤ ((k0 + 2 * i + 2 : Nat) : Rat)
    · rw [if_pos g] at h
      simp only [Option.some.injEq, Prod.mk.injEq] at h
      obtain ⟨rfl, rfl⟩ := h
      have t3 : (u2 : Rat) ≤ 2 := Ex.castle (b := 2) g.1
      refine ⟨i + 1 + 1, fun L hL => ?_⟩
      have up := sk_up hk0 y0 hL
      have top := sk_top (i := i + 1) (L := L) hk0 y0 (by rw [show k0 + 2 * (i + 1) = k0 + 2 * i + 2 by omega]; exact g.2)
      have m1 := Rat.mul_le_mul_of_nonneg_right up (Rat.le_of_lt P)
      have m2 := Rat.mul_le_mul_of_nonneg_right top (Rat.le_of_lt P)
      have sub : ((s1 + u1 - 8 : Nat) : Rat) ≤ ((s1 + u1 : Nat) : Rat) := Ex.castle (by omega)
      refine ⟨Rat.le_trans sub (Rat.le_trans e3.1 m1), Rat.le_trans m2 ?_⟩
      rw [Ex.castadd (s2 + u2) 8, show ((8 : Nat) : Rat) = 8 from rfl, Rat.add_mul]
      have a := e3.2
      have b := e1.2
      generalize sk y k0 (i + 1 + 1) * p2 w = p at *
      generalize tk y k0 (i + 1) * p2 w = q at *
      clear m1 m2 up top ih
      grind
    · rw [if_neg g] at h
      exact ih (i + 1) _ _ _ _ A B h e1 e3
theorem iv_piB {W : Nat} (h1 : 50 ≤ W) (h2 : W ≤ 360) : ∃ lo hi : Nat, piIv W = some (lo, hi) ∧ (lo : Rat) ≤ SQ * SQ * p2 W ∧ SQ * SQ * p2 W ≤ (hi : Rat) ∧ 2 ^ W ≤ lo ∧ lo ≤ hi ∧ hi ≤ 2 ^ (W + 3) := by
  have h := allFrom_at iv_okB W h1 (by omega)
  unfold ivOkB at h
  split at h
  · rename_i lo hi hpi
    rw [Bool.and_eq_true, Bool.and_eq_true, Bool.and_eq_true] at h
    obtain ⟨a, b, c, d⟩ := h
    have a' := Nat.le_of_ble_eq_true a
    have b' := Nat.le_of_ble_eq_true b
    exact ⟨lo, hi, hpi, sq_lo (by omega) a', sq_hi (by omega) b', Nat.le_of_ble_eq_true c, Nat.le_of_mul_le_mul_right (Nat.le_trans a' b') (Nat.pow_pos (by omega)), Nat.le_of_ble_eq_true d⟩
  · cases h
end Go.Proofs.YtemnjalaincijaaGreat
namespace Go.Proofs.YtemnjalaincijaaGreat
open Go.Ev
theorem divZ_neg {n d : Nat} (hd : 0 < d) : -(n : Int) / (d : Int) = -((cdv n d : Nat) : Int) := by
  have h := cdZ_nat (n := n) hd
  unfold cdZ at h
  omega
theorem cdZ_neg {n d : Nat} : cdZ (-(n : Int)) d = -((n / d : Nat) : Int) := by
  unfold cdZ
  rw [Int.neg_neg, ← Int.natCast_ediv]
theorem loQ_mix {a b c d : Nat} (h1 : a ≤ b) (h2 : c ≤ d) : loQ a b (-(d : Int)) (-(c : Int)) = -((b * d : Nat) : Int) ∧ hiQ a b (-(d : Int)) (-(c : Int)) = -((a * c : Nat) : Int) := by
  have e1 : a * c ≤ a * d := Nat.mul_le_mul_left _ h2
  have e2 : a * c ≤ b * c := Nat.mul_le_mul_right _ h1
  have e3 : b * c ≤ b * d := Nat.mul_le_mul_left _ h2
  have e4 : a * d ≤ b * d := Nat.mul_le_mul_right _ h1
  unfold loQ loP hiQ hiP mnZ mxZ
  rw [Int.mul_neg, Int.mul_neg, Int.mul_neg, Int.mul_neg, ← Int.natCast_mul, ← Int.natCast_mul, ← Int.natCast_mul, ← Int.natCast_mul]
  generalize a * c = x1 at *
  generalize a * d = x2 at *
  generalize b * c = x3 at *
  generalize b * d = x4 at *
  constructor <;> (repeat' split) <;> omega
theorem loQ_neg {a b c d : Nat} (h1 : a ≤ b) (h2 : c ≤ d) : loQ (-(b : Int)) (-(a : Int)) (-(d : Int)) (-(c : Int)) = ((a * c : Nat) : Int) ∧ hiQ (-(b : Int)) (-(a : Int)) (-(d : Int)) (-(c : Int)) = ((b * d : Nat) : Int) := by
  have e1 : a * c ≤ a * d := Nat.mul_le_mul_left _ h2
  have e2 : a * c ≤ b * c := Nat.mul_le_mul_right _ h1
  have e3 : b * c ≤ b * d := Nat.mul_le_mul_left _ h2
  have e4 : a * d ≤ b * d := Nat.mul_le_mul_right _ h1
  unfold loQ loP hiQ hiP mnZ mxZ
  rw [Int.neg_mul_neg, Int.neg_mul_neg, Int.neg_mul_neg, Int.neg_mul_neg, ← Int.natCast_mul, ← Int.natCast_mul, ← Int.natCast_mul, ← Int.natCast_mul]
  generalize a * c = x1 at *
  generalize a * d = x2 at *
  generalize b * c = x3 at *
  generalize b * d = x4 at *
  constructor <;> (repeat' split) <;> omega
def sgL (i t1 t2 : Nat) : Int := if i % 2 = 1 then (t1 : Int) else -(t2 : Int)
def sgH (i t1 t2 : Nat) : Int := if i % 2 = 1 then (t2 : Int) else -(t1 : Int)
theorem ey_round {w Y1 Y2 i t1 t2 : Nat} {s1 s2 : Int} (hw0 : 0 < w) (hw : w ≤ 4096) (hi : 1 ≤ i) (hi2 : i < 1000000) (h12 : Y1 ≤ Y2) (ht : t1 ≤ t2) (lY : (lim Y2).length ≤ 1000) (lt : (lim t2).length ≤ 1000) (l1 : (lim s1.natAbs).length ≤ 1000) (l2 : (lim s2.natAbs).length ≤ 1000) :
    ∃ V1 V2 : Int, Go.Ev.Fn CX 109 [ivV (sgL i t1 t2) (sgH i t1 t2), ivV (-(Y2 : Int)) (-(Y1 : Int)), .int .i64 (w : Int)] (ivV V1 V2) ∧
      Go.Ev.Fn CX 184 [ivV V1 V2, .int .i64 (i : Int)] (ivV (sgL (i + 1) (t1 * Y1 / 2 ^ w / i) (cdv (cdv (t2 * Y2) (2 ^ w)) i)) (sgH (i + 1) (t1 * Y1 / 2 ^ w / i) (cdv (cdv (t2 * Y2) (2 ^ w)) i))) ∧
      Go.Ev.Fn CX 99 [ivV s1 s2, ivV (sgL (i + 1) (t1 * Y1 / 2 ^ w / i) (cdv (cdv (t2 * Y2) (2 ^ w)) i)) (sgH (i + 1) (t1 * Y1 / 2 ^ w / i) (cdv (cdv (t2 * Y2) (2 ^ w)) i))] (ivV (if i % 2 = 1 then s1 - (cdv (cdv (t2 * Y2) (2 ^ w)) i : Nat) else s1 + (t1 * Y1 / 2 ^ w / i : Nat)) (if i % 2 = 1 then s2 - (t1 * Y1 / 2 ^ w / i : Nat) else s2 + (cdv (cdv (t2 * Y2) (2 ^ w)) i : Nat))) ∧
      Go.Ev.Fn CX 185 [ivV (sgL (i + 1) (t1 * Y1 / 2 ^ w / i) (cdv (cdv (t2 * Y2) (2 ^ w)) i)) (sgH (i + 1) (t1 * Y1 / 2 ^ w / i) (cdv (cdv (t2 * Y2) (2 ^ w)) i))] (intN (cdv (cdv (t2 * Y2) (2 ^ w)) i)) := by
  have P : 0 < 2 ^ w := Nat.pow_pos (by omega)
  have lt1 := lim_len_mono ht
  have lY1 := lim_len_mono h12
  have z := lim_len_mul (a := t2) (b := Y2)
  have lv2 := lim_len_mono (cdv_self (t2 * Y2) P)
  have v12 : t1 * Y1 / 2 ^ w ≤ cdv (t2 * Y2) (2 ^ w) := div_le_cdv P (Nat.mul_le_mul ht h12)
  have lv1 := lim_len_mono v12
  have u12 : t1 * Y1 / 2 ^ w / i ≤ cdv (cdv (t2 * Y2) (2 ^ w)) i := div_le_cdv hi v12
  have lu2 := lim_len_mono (cdv_self (cdv (t2 * Y2) (2 ^ w)) hi)
  have lu1 := lim_len_mono u12
  by_cases g : i % 2 = 1
  · have eL : sgL i t1 t2 = (t1 : Int) := if_pos g
    have eH : sgH i t1 t2 = (t2 : Int) := if_pos g
    have pr := ref4_Prod (a := (t1 : Int)) (b := (t2 : Int)) (c := -(Y2 : Int)) (d := -(Y1 : Int)) (w := w) (by rw [Int.natAbs_natCast]; omega) (by rw [Int.natAbs_natCast]; omega) (by rw [Int.natAbs_neg, Int.natAbs_natCast]; omega) (by rw [Int.natAbs_neg, Int.natAbs_natCast]; omega) hw hw0
    rw [(loQ_mix ht h12).1, (loQ_mix ht h12).2, divZ_neg P, cdZ_neg] at pr
    have e1 : sgL (i + 1) (t1 * Y1 / 2 ^ w / i) (cdv (cdv (t2 * Y2) (2 ^ w)) i) = -((cdv (cdv (t2 * Y2) (2 ^ w)) i : Nat) : Int) := if_neg (by omega)
    have e2 : sgH (i + 1) (t1 * Y1 / 2 ^ w / i) (cdv (cdv (t2 * Y2) (2 ^ w)) i) = -((t1 * Y1 / 2 ^ w / i : Nat) : Int) := if_neg (by omega)
    rw [eL, eH, e1, e2, if_pos g, if_pos g]
    generalize cdv (t2 * Y2) (2 ^ w) = v2 at *
    generalize t1 * Y1 / 2 ^ w = v1 at *
    have by1 := ref4_By (a := -(v2 : Int)) (b := -(v1 : Int)) (by rw [Int.natAbs_neg, Int.natAbs_natCast]; omega) (by rw [Int.natAbs_neg, Int.natAbs_natCast]; omega) i hi (by omega)
    rw [divZ_neg hi, cdZ_neg] at by1
    generalize cdv v2 i = u2 at *
    generalize v1 / i = u1 at *
    have sm := ref4_Sum (a := s1) (b := s2) (c := -(u2 : Int)) (d := -(u1 : Int)) (by omega) (by omega) (by rw [Int.natAbs_neg, Int.natAbs_natCast]; omega) (by rw [Int.natAbs_neg, Int.natAbs_natCast]; omega)
    have mo := ref4_Most (a := -(u2 : Int)) (b := -(u1 : Int)) (by rw [Int.natAbs_neg, Int.natAbs_natCast]; omega) (by rw [Int.natAbs_neg, Int.natAbs_natCast]; omega)
    rw [Int.natAbs_neg, Int.natAbs_neg, Int.natAbs_natCast, Int.natAbs_natCast, Nat.max_eq_left u12, intN_eq] at mo
    rw [← Int.sub_eq_add_neg, ← Int.sub_eq_add_neg] at sm
    exact ⟨_, _, pr, by1, sm, mo⟩
  · have eL : sgL i t1 t2 = -(t2 : Int) := if_neg g
    have eH : sgH i t1 t2 = -(t1 : Int) := if_neg g
    have pr := ref4_Prod (a := -(t2 : Int)) (b := -(t1 : Int)) (c := -(Y2 : Int)) (d := -(Y1 : Int)) (w := w) (by rw [Int.natAbs_neg, Int.natAbs_natCast]; omega) (by rw [Int.natAbs_neg, Int.natAbs_natCast]; omega) (by rw [Int.natAbs_neg, Int.natAbs_natCast]; omega) (by rw [Int.natAbs_neg, Int.natAbs_natCast]; omega) hw hw0
    rw [(loQ_neg ht h12).1, (loQ_neg ht h12).2, cdZ_nat P, ← Int.natCast_ediv] at pr
    have e1 : sgL (i + 1) (t1 * Y1 / 2 ^ w / i) (cdv (cdv (t2 * Y2) (2 ^ w)) i) = ((t1 * Y1 / 2 ^ w / i : Nat) : Int) := if_pos (by omega)
    have e2 : sgH (i + 1) (t1 * Y1 / 2 ^ w / i) (cdv (cdv (t2 * Y2) (2 ^ w)) i) = ((cdv (cdv (t2 * Y2) (2 ^ w)) i : Nat) : Int) := if_pos (by omega)
    rw [eL, eH, e1, e2, if_neg g, if_neg g]
    generalize cdv (t2 * Y2) (2 ^ w) = v2 at *
    generalize t1 * Y1 / 2 ^ w = v1 at *
    have by1 := ref4_By (a := (v1 : Int)) (b := (v2 : Int)) (by rw [Int.natAbs_natCast]; omega) (by rw [Int.natAbs_natCast]; omega) i hi (by omega)
    rw [cdZ_nat hi, ← Int.natCast_ediv] at by1
    generalize cdv v2 i = u2 at *
    generalize v1 / i = u1 at *
    have sm := ref4_Sum (a := s1) (b := s2) (c := (u1 : Int)) (d := (u2 : Int)) (by omega) (by omega) (by rw [Int.natAbs_natCast]; omega) (by rw [Int.natAbs_natCast]; omega)
    have mo := ref4_Most (a := (u1 : Int)) (b := (u2 : Int)) (by rw [Int.natAbs_natCast]; omega) (by rw [Int.natAbs_natCast]; omega)
    rw [Int.natAbs_natCast, Int.natAbs_natCast, Nat.max_eq_right u12, intN_eq] at mo
    exact ⟨_, _, pr, by1, sm, mo⟩
section
variable {w Y1 Y2 : Nat}
set_option maxHeartbeats 1000000 in
theorem ref6_row (hw0 : 64 ≤ w) (hw : w ≤ 900) (hY : 4 * Y2 ≤ 2 ^ w) (h12 : Y1 ≤ Y2) : ∃ A B : Nat, 0 < A ∧ A ≤ B ∧ B ≤ 2 ^ (w + 1) ∧ nRow w Y1 Y2 (w / 2 + 3) 1 (2 ^ w) (2 ^ w) (2 ^ w : Nat) (2 ^ w : Nat) = some ((A : Int), (B : Int)) ∧
    Go.Ev.Fn CX 145 [ivV (-(Y2 : Int)) (-(Y1 : Int)), .int .i64 (w : Int)] (ivN A B) := by
  have i0 := nInv_0 w
  have big : 64 * 64 ≤ 2 ^ w := Nat.le_trans (show 64 * 64 ≤ 2 ^ 64 by decide) (Nat.pow_le_pow_right (by omega) hw0)
  have bw : 16 * w ≤ 2 ^ w := by
    have h1 : 16 * w ≤ 2 ^ 14 := by omega
    exact Nat.le_trans h1 (Nat.pow_le_pow_right (by omega) (by omega))
  obtain ⟨A', B', hr, hAB, hA, hB⟩ := nRow_end (w := w) hY h12 (w / 2 + 1) (w / 2 + 3) 1 (2 ^ w) (2 ^ w) _ _ i0 (by
    have e : 4 ^ (w / 2 + 1) = 2 ^ (2 * (w / 2 + 1)) := by rw [Nat.pow_mul]
    rw [e]
    have := Nat.pow_le_pow_right (n := 2) (by omega) (show w ≤ 2 * (w / 2 + 1) by omega)
    omega) (by omega)
  obtain ⟨A, rfl⟩ : ∃ A : Nat, A' = (A : Int) := ⟨A'.toNat, by omega⟩
  obtain ⟨B, rfl⟩ : ∃ B : Nat, B' = (B : Int) := ⟨B'.toNat, by omega⟩
  have e1 : 2 ^ (w + 1) = 2 ^ w * 2 := Nat.pow_succ _ _
  refine ⟨A, B, by omega, by omega, by omega, hr, ?_⟩
  have lp := lim_len_p2 (n := 2 ^ w) (w := w) (Nat.le_refl _) (by omega)
  have lY : (lim Y2).length ≤ 40 := lim_len_p2 (w := w) (by omega) (by omega)
  have lens := fun (i t1 t2 : Nat) (s1 s2 : Int) (hi : i ≤ w) (h : nInv w i t1 t2 s1 s2) => (show (lim t2).length ≤ 40 ∧ (lim s1.natAbs).length ≤ 80 ∧ (lim s2.natAbs).length ≤ 80 ∧ t1 ≤ t2 ∧ 1 ≤ i from by
    obtain ⟨q1, q2, q3, q4, q5, q6⟩ := h
    exact ⟨lim_len_p2 q3 (by omega), Nat.le_trans (lim_len_p2 (w := w + 1) (by omega) (by omega)) (by omega), Nat.le_trans (lim_len_p2 (w := w + 1) (by omega) (by omega)) (by omega), q2, q1⟩)
  have step := fun (i t1 t2 : Nat) (s1 s2 : Int) (h : nInv w i t1 t2 s1 s2) => nInv_step (Y1 := Y1) hY h12 h
  have n1 := ref4_NumN (w := w) (RatA_rv (one_szR')) (by omega) (by omega) (by omega) (show (0 : Rat) ≤ 1 by decide)
  have u1 : unN 1 w = 2 ^ w := by show 1 * 2 ^ w / 1 = _; rw [Nat.one_mul, Nat.div_one]
  have u2 : upN 1 w = 2 ^ w := by show cdv (1 * 2 ^ w) 1 = _; unfold cdv; rw [Nat.one_mul, Nat.div_one]; omega
  rw [u1, u2] at n1
  have i1 := ref2_Int 1 (by omega)
  rw [show ((1 : Int) : Rat) = 1 from rfl] at i1
  have w2 := ref4_Whole 2 (by omega)
  rw [show (2 : Int) = ((2 : Nat) : Int) from rfl, intN_eq] at w2
  have l2 : (lim 2).length ≤ 1 := lim_len_one (by decide)
  have b0 : decide ((((2 ^ w : Nat) : Int)) < 0) = false := decide_eq_false (by omega)
  obtain ⟨yn1, hyn1⟩ : ∃ z : Int, z = -(Y2 : Int) := ⟨_, rfl⟩
  obtain ⟨yn2, hyn2⟩ : ∃ z : Int, z = -(Y1 : Int) := ⟨_, rfl⟩
  have rnd := fun (i t1 t2 : Nat) (s1 s2 : Int) => ey_round (w := w) (Y1 := Y1) (Y2 := Y2) (i := i) (t1 := t1) (t2 := t2) (s1 := s1) (s2 := s2) (by omega) (by omega)
  rw [← hyn1, ← hyn2] at rnd ⊢
  clear u1 u2 hA hB hAB e1 big bw
  refine Go.Ev.Fn.intro (fn := Tryz.f145) (body := (Tryz.f145).body.get!) (by kernel_rfl) (by kernel_rfl) (by kernel_rfl) (fun _ => rfl) (Nat.le_of_ble_eq_true (by kernel_rfl)) ?_; unfold Tryz.f145; simp only [Option.get!_some]
  repeat (first | (simp only [go_sem, Nat.reduceEqDiff, Nat.reduceAdd, Nat.reduceSub, Nat.reduceMul, Nat.reduceLeDiff, Nat.reduceLT, reduceIte, reduceCtorEq, Nat.succ_ne_zero, elemsC, Int.reduceToNat, Nat.reducePow]) | (simp (disch := (first | omega | (simp only [AL, List.length_map]; omega))) only [AR, AL, ifT, ifF, take_all, List.length_cons, List.length_nil, Int.reduceToNat, Int.reducePow, Nat.reducePow]) | (refine wk_intro (by kernel_rfl) ?_) | (refine vp_draw (id := 2) (l := []) (by kernel_rfl) ?_) | (refine vf_of (by first | exact i1 | exact n1) ?_))
  refine vp_loop_inv (fun s => s.tmp 1 = .sv (.int .i64 (w : Int)) ∧ s.tmp 2 = .ptr 2 0 0 ∧ s.obj 2 0 = some [.bool (decide (yn1 < 0)), natV (lim yn1.natAbs), .bool (decide (yn2 < 0)), natV (lim yn2.natAbs)] ∧ s.tmp 4 = .ptr 4 0 0 ∧ s.obj 4 0 = some [.bool false, .sl 0 [], .bool false, .sl 0 []] ∧ s.tmp 6 = .ptr 6 0 0 ∧ s.tmp 7 = .ptr 7 0 0 ∧
      ∃ f i t1 t2 : Nat, ∃ s1 s2 : Int, s.tmp 8 = .sv (.int .i64 (i : Int)) ∧ f + i = w / 2 + 4 ∧ nRow w Y1 Y2 f i t1 t2 s1 s2 = some ((A : Int), (B : Int)) ∧ s.obj 6 0 = some [.bool (decide (s1 < 0)), natV (lim s1.natAbs), .bool (decide (s2 < 0)), natV (lim s2.natAbs)] ∧ s.obj 7 0 = some [.bool (decide (sgL i t1 t2 < 0)), natV (lim (sgL i t1 t2).natAbs), .bool (decide (sgH i t1 t2 < 0)), natV (lim (sgH i t1 t2).natAbs)] ∧ nInv w i t1 t2 s1 s2)
    (fun s => match s.tmp 8 with | .sv (.int _ i) => w / 2 + 5 - i.toNat | _ => 0) ⟨rfl, rfl, rfl, rfl, rfl, rfl, rfl, _, 1, _, _, _, _, rfl, by omega, hr, by rw [b0, Int.natAbs_natCast]; rfl, by rw [show sgL 1 (2 ^ w) (2 ^ w) = ((2 ^ w : Nat) : Int) from rfl, show sgH 1 (2 ^ w) (2 ^ w) = ((2 ^ w : Nat) : Int) from rfl, b0, Int.natAbs_natCast]; rfl, i0⟩ ?_
  rintro s ⟨i1', i2, o2, i4, o4, i6, i7, f, i, t1, t2, s1, s2, i8, hfi, hgo, o6, o7, hok⟩
  obtain ⟨lt2, ls1, ls2, t12, hi1⟩ := lens i t1 t2 s1 s2 (by omega) hok
  have st := step i t1 t2 s1 s2 hok
  cases f with
  | zero => simp only [nRow] at hgo; cases hgo
  | succ f =>
    obtain ⟨V1, V2, pr, by1, sm, mo⟩ := rnd i t1 t2 s1 s2 hi1 (by omega) h12 t12 (by omega) (by omega) (by omega) (by omega)
    obtain ⟨lu2, lz1, lz2, -, -⟩ := lens (i + 1) _ _ _ _ (by omega) st
    rw [nRow] at hgo
    generalize (if i % 2 = 1 then s1 - (cdv (cdv (t2 * Y2) (2 ^ w)) i : Nat) else s1 + (t1 * Y1 / 2 ^ w / i : Nat)) = z1 at *
    generalize (if i % 2 = 1 then s2 - (t1 * Y1 / 2 ^ w / i : Nat) else s2 + (cdv (cdv (t2 * Y2) (2 ^ w)) i : Nat)) = z2 at *
    generalize t1 * Y1 / 2 ^ w / i = u1 at *
    generalize cdv (cdv (t2 * Y2) (2 ^ w)) i = u2 at *
    have cc := ref4_CmpN (a := u2) (b := 2) (by omega) (by omega)
    have ec : decide (cmpZ ((u2 : Nat) : Int) ((2 : Nat) : Int) ≤ 0) = decide (u2 ≤ 2) := by rw [cmpZ_le]; exact decide_eq_decide.2 (by omega)
    generalize cmpZ ((u2 : Nat) : Int) ((2 : Nat) : Int) = cz at *
    have wd := ref4_Wide (a := z1) (b := z2) (by omega) (by omega) 4 (by omega)
    clear lens step rnd hr
    by_cases hu : u2 ≤ 2
    · rw [decide_eq_true hu] at ec
      rw [if_pos hu] at hgo
      simp only [Option.some.injEq, Prod.mk.injEq] at hgo
      rw [hgo.1, hgo.2, ivN_eq] at wd
      clear hgo st
      generalize sgL (i + 1) u1 u2 = T1 at *
      generalize sgH (i + 1) u1 u2 = T2 at *
      repeat (first | (simp only [go_sem, Nat.reduceEqDiff, Nat.reduceAdd, Nat.reduceSub, Nat.reduceMul, Nat.reduceLeDiff, Nat.reduceLT, reduceIte, reduceCtorEq, Nat.succ_ne_zero, elemsC, Int.reduceToNat, Nat.reducePow, i1', i2, o2, i4, o4, i6, i7, i8, o6, o7, ec]) | (simp (disch := (first | omega | (simp only [AL, List.length_map]; omega))) only [AR, AL, ifT, ifF, take_all, List.length_cons, List.length_nil, Int.reduceToNat, Int.reducePow, Nat.reducePow, i1', i2, o2, i4, o4, i6, i7, i8, o6, o7, ec]) | (refine wk_intro (by kernel_rfl) ?_) | (refine vp_draw (id := 2) (l := []) (by kernel_rfl) ?_) | (refine vf_of (by first | exact pr | exact by1 | exact sm | exact mo | exact w2 | exact cc | exact wd) ?_))
    · rw [decide_eq_false hu] at ec
      rw [if_neg hu] at hgo
      have fin : ∀ T1 T2 : Int, T1 = sgL (i + 1) u1 u2 → T2 = sgH (i + 1) u1 u2 → (∃ f' i' t1 t2 : Nat, ∃ s1 s2 : Int, TV.sv (.int .i64 ((i + 1 : Nat) : Int)) = .sv (.int .i64 (i' : Int)) ∧ f' + i' = w / 2 + 4 ∧ nRow w Y1 Y2 f' i' t1 t2 s1 s2 = some ((A : Int), (B : Int)) ∧ [SV.bool (decide (z1 < 0)), natV (lim z1.natAbs), .bool (decide (z2 < 0)), natV (lim z2.natAbs)] = [.bool (decide (s1 < 0)), natV (lim s1.natAbs), .bool (decide (s2 < 0)), natV (lim s2.natAbs)] ∧ [SV.bool (decide (T1 < 0)), natV (lim T1.natAbs), .bool (decide (T2 < 0)), natV (lim T2.natAbs)] = [.bool (decide (sgL i' t1 t2 < 0)), natV (lim (sgL i' t1 t2).natAbs), .bool (decide (sgH i' t1 t2 < 0)), natV (lim (sgH i' t1 t2).natAbs)] ∧ nInv w i' t1 t2 s1 s2) := by
        rintro T1 T2 rfl rfl
        exact ⟨f, i + 1, u1, u2, z1, z2, rfl, by omega, hgo, rfl, rfl, st⟩
      have fin2 := fin _ _ rfl rfl
      clear fin hgo st
      generalize sgL (i + 1) u1 u2 = T1 at *
      generalize sgH (i + 1) u1 u2 = T2 at *
      repeat (first | (simp only [go_sem, Nat.reduceEqDiff, Nat.reduceAdd, Nat.reduceSub, Nat.reduceMul, Nat.reduceLeDiff, Nat.reduceLT, reduceIte, reduceCtorEq, Nat.succ_ne_zero, elemsC, Int.reduceToNat, Nat.reducePow, i1', i2, o2, i4, o4, i6, i7, i8, o6, o7, ec]) | (simp (disch := (first | omega | (simp only [AL, List.length_map]; omega))) only [AR, AL, ifT, ifF, take_all, List.length_cons, List.length_nil, Int.reduceToNat, Int.reducePow, Nat.reducePow, i1', i2, o2, i4, o4, i6, i7, i8, o6, o7, ec]) | (refine wk_intro (by kernel_rfl) ?_) | (refine vp_draw (id := 2) (l := []) (by kernel_rfl) ?_) | (refine vf_of (by first | exact pr | exact by1 | exact sm | exact mo | exact w2 | exact cc) ?_))
      exact ⟨fin2, by omega⟩
theorem neg_numE (y : Rat) (h : 0 ≤ y) : (-y).num = -((y.num.natAbs : Nat) : Int) := by rw [Rat.neg_num, num_abs h]
theorem ref4_NumNeg {v : SV} {y : Rat} {L : Nat} (hv : RatA v (-y) L) (hL1 : 1 ≤ L) (hL : L ≤ 100000) (hw : w ≤ 4096) (h0 : 0 ≤ y) : Go.Ev.Fn CX 98 [v, .int .i64 (w : Int)] (ivV (-((upN y w : Nat) : Int)) (-((unN y w : Nat) : Int))) := by
  have h := ref4_Num hv hL1 hL hw
  rw [neg_numE y h0, Rat.neg_den, Int.neg_mul, ← Int.natCast_mul, divZ_neg y.den_pos, cdZ_neg] at h
  exact h
theorem sq_one : Enc w (2 ^ w) (2 ^ w) 1 := ⟨by rw [Rat.one_mul]; exact Rat.le_refl, by rw [Rat.one_mul]; exact Rat.le_refl⟩
set_option maxHeartbeats 1000000 in
theorem ref6_IvX {v : SV} {x : Rat} {L : Nat} (hv : RatA v x L) (hL1 : 1 ≤ L) (hL : L ≤ 50) (h0 : x ≤ 0) (h64 : -64 ≤ x) (hw : w ≤ 600) :
    ∃ A B : Nat, A ≤ B ∧ B ≤ 2 ^ (w + 130 + 256) ∧ Go.Ev.Fn CX 88 [v, .int .i64 (w : Int)] (ivN A B) ∧ (∃ s, ∀ L, s ≤ L → Enc w A B (evX x L)) ∧
      ∃ A0 B0 : Nat, nRow (w + 130) (unN (-x * (1 / 256)) (w + 130)) (upN (-x * (1 / 256)) (w + 130)) ((w + 130) / 2 + 3) 1 (2 ^ (w + 130)) (2 ^ (w + 130)) (2 ^ (w + 130) : Nat) (2 ^ (w + 130) : Nat) = some ((A0 : Int), (B0 : Int)) ∧ A = (sqn (w + 130) 8 A0 B0).1 / 2 ^ 130 ∧ B = cdv (sqn (w + 130) 8 A0 B0).2 (2 ^ 130) := by
  obtain ⟨W, hW, hw1, hw2, hwi⟩ : ∃ W : Nat, (∀ Q : Nat → Prop, Q W → Q (w + 130)) ∧ 130 ≤ W ∧ W ≤ 730 ∧ (w : Int) + 130 = (W : Int) := ⟨w + 130, fun Q h => h, by omega, by omega, rfl⟩
  obtain ⟨y, hy⟩ : ∃ y : Rat, y = -x * (1 / 256) := ⟨_, rfl⟩
  have h256 : (1 / 256 : Rat) * 256 = 1 := by decide +kernel
  have y256 : ((256 : Nat) : Rat) * y = -x := by rw [hy, show ((256 : Nat) : Rat) = 256 from rfl]; grind
  have y0 : 0 ≤ y := by rw [hy]; exact Rat.mul_nonneg (by grind) (by decide +kernel)
  have y4 : y * ((4 : Nat) : Rat) ≤ ((1 : Nat) : Rat) := by
    rw [show ((4 : Nat) : Rat) = 4 from rfl, show ((1 : Nat) : Rat) = 1 from rfl]
    rw [show ((256 : Nat) : Rat) = 256 from rfl] at y256
    grind
  have yh : (y + y) + (y + y) ≤ 1 := by
    rw [show ((4 : Nat) : Rat) = 4 from rfl, show ((1 : Nat) : Rat) = 1 from rfl] at y4
    grind
  have xy : x * mkRat 1 (2 ^ 8) = -y := by
    rw [show mkRat 1 (2 ^ 8) = (1 / 256 : Rat) by decide +kernel, hy]; grind
  have zx := szR_of hv hL1
  have z8 : szR (mkRat 1 (2 ^ 8)) 1 := ⟨lim_len_lt (by decide +kernel), lim_len_lt (by decide +kernel)⟩
  have zq := szR_mul zx z8 hL1
  have mu := ref2_Mul hv (RatA_rv z8) hL1 (by omega) (by omega)
  rw [xy] at mu zq
  have nm := ref4_NumNeg (w := W) (RatA_rv zq) (by omega) (by omega) (by omega) y0
  have sh := ref1_shl (N := 1) (m := 8) (by rw [lim_one]; simp) (by omega)
  rw [Nat.one_mul, lim_one] at sh
  have l := lim_len_shl (a := 1) (n := 8)
  have l1 := lim_len1
  rw [Nat.one_mul] at l
  have of := ref2_OfL (s := false) (n := 1) (d := 2 ^ 8) (by omega) (by omega)
  rw [lim_one, show sgn false 1 = 1 from rfl] at of
  have hY : 4 * upN y W ≤ 2 ^ W := by
    have e : 2 ^ W = 2 ^ (W - 2) * 4 := by rw [show (4 : Nat) = 2 ^ 2 from rfl, ← Nat.pow_add]; congr 1; omega
    have := upN_le (w := W) (c := 2 ^ (W - 2)) y0 y4 (by omega) (by omega)
    omega
  obtain ⟨A0, B0, a1, a2, a3, hr, fr⟩ := ref6_row (w := W) (by omega) (by omega) hY (un_up W)
  have E1 : Ex.E (-y) 1 = 1 := by show (0 : Rat) + 1 = 1; decide +kernel
  obtain ⟨s1, hs⟩ := nRow_enc (num_enc y0 W) yh _ 0 _ _ _ _ _ _ hr sq_one (by rw [E1]; exact sq_one)
  have en : ∀ L, s1 ≤ L → Enc W A0 B0 (1 / Ex.E y L) := fun L hL => hs L hL
  have en8 := fun L hL => sqn_enc (w := W) 8 A0 B0 _ (en L hL)
  obtain ⟨s2, hs2⟩ := inv_far (x := -x) (j := 2 ^ 8) (by omega) y0 (by rw [show (2 : Nat) ^ 8 = 256 from rfl]; exact y256) en8
  have st : ∀ (k lo hi c : Nat), lo ≤ hi → hi ≤ 2 ^ (W + c) → c ≤ 128 → (Go.Ev.Fn CX 109 [ivN lo hi, ivN lo hi, .int .i64 (W : Int)] (ivN (lo * lo / 2 ^ W) (cdv (hi * hi) (2 ^ W)))) ∧ lo * lo / 2 ^ W ≤ cdv (hi * hi) (2 ^ W) ∧ cdv (hi * hi) (2 ^ W) ≤ 2 ^ (W + (c + c)) := by
    intro k lo hi c q1 q2 q3
    obtain ⟨m1, m2⟩ := sqn_step q1 q2
    have lh := lim_len_p2 q2 (by omega)
    exact ⟨ref4_ProdN q1 q1 (by omega) (by omega) (by omega) (by omega), m1, m2⟩
  have fin : ∀ (k lo hi c : Nat), lo ≤ hi → hi ≤ 2 ^ (W + c) → c * 2 ^ k ≤ 256 → (sqn W k lo hi).1 ≤ (sqn W k lo hi).2 ∧ (sqn W k lo hi).2 ≤ 2 ^ (W + 256) := by
    intro k
    induction k with
    | zero => intro lo hi c q1 q2 q3; exact ⟨q1, Nat.le_trans q2 (Nat.pow_le_pow_right (by omega) (by omega))⟩
    | succ k ih =>
      intro lo hi c q1 q2 q3
      obtain ⟨m1, m2⟩ := sqn_step q1 q2
      refine ih _ _ (c + c) m1 m2 ?_
      rw [Nat.pow_succ, ← Nat.mul_two] at *
      rw [Nat.mul_assoc, Nat.mul_comm 2]; exact q3
  obtain ⟨R1, R2, hR⟩ : ∃ R1 R2 : Nat, sqn W 8 A0 B0 = (R1, R2) := ⟨_, _, rfl⟩
  obtain ⟨f1, f2⟩ := fin 8 A0 B0 1 a2 a3 (by omega)
  rw [hR] at f1 f2 hs2
  simp only at f1 f2 hs2
  have lR2 := lim_len_p2 f2 (by omega)
  have lR1 := lim_len_mono f1
  have bk := ref4_BackN (a := R1) (b := R2) (n := 130) (by omega) (by omega) (by omega) (by omega)
  have o12 := div_le_cdv (d := 2 ^ 130) (Nat.two_pow_pos 130) f1
  have f2' : R2 ≤ 2 ^ (w + 130 + 256) := hW (fun W => R2 ≤ 2 ^ (W + 256)) f2
  refine ⟨R1 / 2 ^ 130, cdv R2 (2 ^ 130), o12, Nat.le_trans (cdv_self R2 (Nat.two_pow_pos 130)) f2', ?_, ⟨s2 + 1, fun L hL => ?_⟩, ?_⟩
  rotate_left
  · have e : evX x L = 1 / Ex.E (-x) L := by
      unfold evX
      by_cases g : x < 0
      · rw [if_pos g]
      · rw [if_neg g]
        have x0 : x = 0 := Rat.le_antisymm h0 (Rat.not_lt.1 g)
        subst x0
        obtain ⟨k, rfl⟩ : ∃ k, L = k + 1 := ⟨L - 1, by omega⟩
        rw [Rat.neg_zero, Ex.E_zero]; decide +kernel
    rw [e]
    exact enc_backN (w := w) (n := 130) (hW (fun W => Enc W R1 R2 (1 / Ex.E (-x) L)) (hs2 L (by omega)))
  · have := hW (fun W => nRow W (unN (-x * (1 / 256)) W) (upN (-x * (1 / 256)) W) (W / 2 + 3) 1 (2 ^ W) (2 ^ W) (2 ^ W : Nat) (2 ^ W : Nat) = some ((A0 : Int), (B0 : Int)) ∧ sqn W 8 A0 B0 = (R1, R2)) ⟨by rw [← hy]; exact hr, hR⟩
    exact ⟨A0, B0, this.1, by rw [this.2], by rw [this.2]⟩
  · clear en en8 hs hs2 hr fin f2' o12
    obtain ⟨s0, n0, d0, rfl, -⟩ := hv
    generalize hyn1 : -((upN y W : Nat) : Int) = yn1 at *
    generalize hyn2 : -((unN y W : Nat) : Int) = yn2 at *
    generalize R1 / 2 ^ 130 = O1 at *
    generalize cdv R2 (2 ^ 130) = O2 at *
    generalize mkRat 1 (2 ^ 8) = q8 at *
    generalize 2 ^ 8 = P8 at *
    generalize -y = my at *
    refine Go.Ev.Fn.intro (fn := Tryz.f88) (body := (Tryz.f88).body.get!) (by kernel_rfl) (by kernel_rfl) (by kernel_rfl) (fun _ => rfl) (Nat.le_of_ble_eq_true (by kernel_rfl)) ?_; unfold Tryz.f88; simp only [Option.get!_some]
    repeat (first | (simp only [go_sem, Nat.reduceEqDiff, Nat.reduceAdd, Nat.reduceSub, Nat.reduceMul, Nat.reduceLeDiff, Nat.reduceLT, reduceIte, reduceCtorEq, Nat.succ_ne_zero, elemsC, Int.reduceToNat, Nat.reducePow, hwi]) | (simp (disch := (first | omega | (simp only [AL, List.length_map]; omega))) only [AR, AL, ifT, ifF, take_all, List.length_cons, List.length_nil, Int.reduceToNat, Int.reducePow, Nat.reducePow, hwi]) | (refine wk_intro (by kernel_rfl) ?_) | (refine vp_draw (id := 3) (l := [12, 11, 14]) (by kernel_rfl) ?_) | (refine vf_of (by first | exact sh | exact of | exact mu | exact nm | exact fr) ?_))
    refine vp_loop_inv (fun s => s.tmp 1 = .sv (.int .i64 (w : Int)) ∧ s.tmp 4 = .ptr 4 0 0 ∧ s.obj 4 0 = some [.bool false, .sl 0 [], .bool false, .sl 0 []] ∧ s.tmp 5 = .sv (.int .i64 130) ∧ s.tmp 6 = .sv (.int .i64 8) ∧ s.tmp 8 = .ptr 8 0 0 ∧
        ∃ k lo hi c : Nat, s.tmp 9 = .sv (.int .i64 ((8 - k : Nat) : Int)) ∧ k ≤ 8 ∧ s.obj 8 0 = some [.bool false, natV (lim lo), .bool false, natV (lim hi)] ∧ sqn W k lo hi = (R1, R2) ∧ lo ≤ hi ∧ hi ≤ 2 ^ (W + c) ∧ c * 2 ^ k ≤ 256)
      (fun s => match s.tmp 9 with | .sv (.int _ i) => 9 - i.toNat | _ => 0) ⟨rfl, rfl, rfl, rfl, rfl, rfl, 8, A0, B0, 1, rfl, by omega, rfl, hR, a2, a3, by omega⟩ ?_
    rintro s ⟨i1, i4, o4, i5, i6, i8, k, lo, hi, c, i9, hk, o8, hsq, g1, g2, g3⟩
    cases k with
    | zero =>
      have hsq' : (lo, hi) = (R1, R2) := hsq
      simp only [Prod.mk.injEq] at hsq'
      obtain ⟨rfl, rfl⟩ := hsq'
      repeat (first | (simp only [go_sem, Nat.reduceEqDiff, Nat.reduceAdd, Nat.reduceSub, Nat.reduceMul, Nat.reduceLeDiff, Nat.reduceLT, reduceIte, reduceCtorEq, Nat.succ_ne_zero, elemsC, Int.reduceToNat, Nat.reducePow, i1, i4, o4, i5, i6, i8, i9, o8, hwi]) | (simp (disch := (first | omega | (simp only [AL, List.length_map]; omega))) only [AR, AL, ifT, ifF, take_all, List.length_cons, List.length_nil, Int.reduceToNat, Int.reducePow, Nat.reducePow, i1, i4, o4, i5, i6, i8, i9, o8, hwi]) | (refine wk_intro (by kernel_rfl) ?_) | (refine vp_draw (id := 3) (l := [12, 11, 14]) (by kernel_rfl) ?_) | (refine vf_of (by first | exact bk) ?_))
    | succ k =>
      have c128 : c ≤ 128 := by
        rw [Nat.pow_succ, ← Nat.mul_assoc] at g3
        have := Nat.le_mul_of_pos_right c (show 0 < 2 ^ k from Nat.pow_pos (by omega))
        omega
      obtain ⟨mu2, m1, m2⟩ := st k lo hi c g1 g2 c128
      have hsq' : sqn W k (lo * lo / 2 ^ W) (cdv (hi * hi) (2 ^ W)) = (R1, R2) := hsq
      clear hsq st
      generalize lo * lo / 2 ^ W = lo' at *
      generalize cdv (hi * hi) (2 ^ W) = hi' at *
      have g3' : (c + c) * 2 ^ k ≤ 256 := by
        rw [Nat.pow_succ, Nat.mul_comm _ 2, ← Nat.mul_assoc, Nat.mul_two] at g3; exact g3
      repeat (first | (simp only [go_sem, Nat.reduceEqDiff, Nat.reduceAdd, Nat.reduceSub, Nat.reduceMul, Nat.reduceLeDiff, Nat.reduceLT, reduceIte, reduceCtorEq, Nat.succ_ne_zero, elemsC, Int.reduceToNat, Nat.reducePow, i1, i4, o4, i5, i6, i8, i9, o8, hwi]) | (simp (disch := (first | omega | (simp only [AL, List.length_map]; omega))) only [AR, AL, ifT, ifF, take_all, List.length_cons, List.length_nil, Int.reduceToNat, Int.reducePow, Nat.reducePow, i1, i4, o4, i5, i6, i8, i9, o8, hwi]) | (refine wk_intro (by kernel_rfl) ?_) | (refine vp_draw (id := 3) (l := [12, 11, 14]) (by kernel_rfl) ?_) | (refine vf_of (by first | exact mu2) ?_))
      exact ⟨⟨k, lo', hi', c + c, by congr 2; omega, by omega, rfl, hsq', m1, m2, g3'⟩, by omega⟩
theorem ref6_Iv {v : SV} {x : Rat} {L : Nat} (hv : RatA v x L) (hL1 : 1 ≤ L) (hL : L ≤ 50) (h0 : x ≤ 0) (h64 : -64 ≤ x) (hw : w ≤ 600) :
    ∃ A B : Nat, A ≤ B ∧ B ≤ 2 ^ (w + 130 + 256) ∧ Go.Ev.Fn CX 88 [v, .int .i64 (w : Int)] (ivN A B) ∧ ∃ s, ∀ L, s ≤ L → Enc w A B (evX x L) := by
  obtain ⟨A, B, a, b, c, d, -⟩ := ref6_IvX hv hL1 hL h0 h64 hw
  exact ⟨A, B, a, b, c, d⟩
end
end Go.Proofs.YtemnjalaincijaaGreat
namespace Go.Proofs.YtemnjalaincijaaGreat
open Go.Ev
section
variable {N D w n : Nat}
end
end Go.Proofs.YtemnjalaincijaaGreat
namespace Go.Proofs.YtemnjalaincijaaGreat
open Go.Ev
theorem inv_ball {lo hi : Rat} {w g : Nat} (h1 : 1 ≤ lo) (h2 : lo ≤ hi) (h3 : (hi - lo) * p2 w ≤ (g : Rat)) (hg : g + 2 ≤ 2 ^ w) (hw : 1 ≤ w) :
    2 ^ (2 * w) / (unN hi w + 1) ≤ 2 ^ (2 * w) / unN lo w + 1 ∧ 2 ^ (2 * w) / unN lo w + 1 ≤ 2 * 2 ^ w ∧ 2 ^ (2 * w) / unN lo w + 1 ≤ 2 ^ (2 * w) / (unN hi w + 1) + (g + 4) ∧ 2 ^ w ≤ unN lo w ∧ unN hi w + 1 ≤ unN lo w + (g + 2) := by
  have P : 0 < 2 ^ w := Nat.pow_pos (by omega)
  have pp : 2 ^ (2 * w) = 2 ^ w * 2 ^ w := by rw [← Nat.pow_add]; congr 1; omega
  have u1 := unN_le (show 0 ≤ lo by grind) w
  have u2 := unN_le (show 0 ≤ hi by grind) w
  have W := p2_pos w
  have lo1 : 2 ^ w ≤ unN lo w := by
    have a : p2 w < ((unN lo w + 1 : Nat) : Rat) := by
      have := unN_lt (show 0 ≤ lo by grind) w
      have m := Rat.mul_le_mul_of_nonneg_right h1 (Rat.le_of_lt W)
      grind
    have a2 : 2 ^ w < unN lo w + 1 := by exact_mod_cast a
    omega
  have d : unN hi w + 1 ≤ unN lo w + (g + 2) := by
    have a : ((unN hi w : Nat) : Rat) < ((unN lo w + 1 + g : Nat) : Rat) := by
      have := unN_lt (show 0 ≤ lo by grind) w
      rw [Ex.castadd (unN lo w + 1) g]
      grind
    have a2 : unN hi w < unN lo w + 1 + g := by exact_mod_cast a
    omega
  have m := unN_mono (show 0 ≤ lo by grind) h2 w
  obtain ⟨i1, i2, i3⟩ := inv_gapE (M := 2 ^ (2 * w)) (lo := unN lo w) (hi := unN hi w + 1) (W := 2 ^ w) P pp lo1 (by omega) (by omega)
  exact ⟨by omega, by omega, by omega, lo1, d⟩
section
variable {N D w n : Nat}
end
end Go.Proofs.YtemnjalaincijaaGreat
namespace Go.Proofs.YtemnjalaincijaaGreat
open Go.Ev
section
variable {v : SV} {x : Rat} {n P : Nat} {pI : Int}
end
end Go.Proofs.YtemnjalaincijaaGreat
namespace Go.Proofs.YtemnjalaincijaaGreat
open Go.Ev
theorem enc_oftenN {w a b : Nat} {q : Rat} (h : Enc w a b q) : Enc w (a * 2) (b * 2) (q * 2) := by
  obtain ⟨h1, h2⟩ := h
  unfold Enc
  rw [Ex.castmul, Ex.castmul, show ((2 : Nat) : Rat) = 2 from rfl]
  constructor <;> grind
section
variable {v : SV} {x : Rat} {w n : Nat}
end
end Go.Proofs.YtemnjalaincijaaGreat
namespace Go.Proofs.YtemnjalaincijaaGreat
open Go.Ev
section
variable {x : Rat} {A B w : Nat}
end
end Go.Proofs.YtemnjalaincijaaGreat
namespace Go.Proofs.YtemnjalaincijaaGreat
open Go.Ev
theorem cm (a b : Nat) : ((a * b : Nat) : Rat) = (a : Rat) * (b : Rat) := by exact_mod_cast rfl
section
variable {x y : Rat} {B : Nat}
end
end Go.Proofs.YtemnjalaincijaaGreat
namespace Go.Proofs.YtemnjalaincijaaGreat
open Go.Ev
section
variable {x y : Rat}
end
section
variable {x : Rat} {A B w : Nat}
end
end Go.Proofs.YtemnjalaincijaaGreat
namespace Go.Proofs.YtemnjalaincijaaGreat
open Go.Ev
theorem neg_num {x : Rat} : decide (x.num < 0) = decide (x < 0) := by
  have h := Rat.num_nonneg (q := x)
  refine decide_eq_decide.2 ⟨fun g => ?_, fun g => ?_⟩
  · have : ¬ 0 ≤ x := fun k => absurd (h.2 k) (by omega)
    grind
  · rcases Int.lt_or_le x.num 0 with k | k
    · exact k
    · exact absurd (h.1 k) (by grind)
section
variable {v : SV} {x : Rat} {A B p L : Nat}
theorem erv {x : Rat} (h : decide (x.num < 0) = false) : rv x = ratV false (lim x.num.natAbs) (lim x.den) := by show ratV (decide (x.num < 0)) _ _ = _; rw [h]
end
end Go.Proofs.YtemnjalaincijaaGreat
namespace Go.Proofs.YtemnjalaincijaaGreat
open Go.Ev
section
variable {v : SV} {x : Rat} {a b p L : Nat}
end
end Go.Proofs.YtemnjalaincijaaGreat
namespace Go.Proofs.YtemnjalaincijaaGreat
open Go.Ev
end Go.Proofs.YtemnjalaincijaaGreat
namespace Go.Proofs.YtemnjalaincijaaGreat
open Go.Ev
theorem ref10_Hold {p : Nat} (hp : p ≤ 200) : Go.Ev.Fn CX 67 [.int .i64 (p : Int)] (.int .i64 (p : Int)) := by
  have e1 : (if (0 : Int) > (p : Int) then (0 : Int) else (p : Int)) = (p : Int) := if_neg (by omega)
  have e2 : (if (200 : Int) < (p : Int) then (200 : Int) else (p : Int)) = (p : Int) := if_neg (by omega)
  refine Go.Ev.Fn.intro (fn := Tryz.f67) (body := (Tryz.f67).body.get!) (by kernel_rfl) (by kernel_rfl) (by kernel_rfl) (fun _ => rfl) (Nat.le_of_ble_eq_true (by kernel_rfl)) ?_; unfold Tryz.f67; simp only [Option.get!_some]
  repeat (first | (simp only [go_sem, Nat.reduceEqDiff, Nat.reduceAdd, Nat.reduceSub, Nat.reduceMul, Nat.reduceLeDiff, Nat.reduceLT, reduceIte, reduceCtorEq, Nat.succ_ne_zero, elemsC, Int.reduceToNat, Nat.reducePow, e1, e2]) | (simp (disch := (first | omega | (simp only [AL, List.length_map]; omega))) only [AR, AL, ifT, ifF, take_all, List.length_cons, List.length_nil, Int.reduceToNat, Int.reducePow, Nat.reducePow, e1, e2]) | (refine wk_intro (by kernel_rfl) ?_))
section
variable {v : SV} {x : Rat} {L a b p : Nat}
theorem half_len : szR (mkRat 1 2) 1 := ⟨lim_len_lt (by decide +kernel), lim_len_lt (by decide +kernel)⟩
end
end Go.Proofs.YtemnjalaincijaaGreat
namespace Go.Proofs.YtemnjalaincijaaGreat
open Go.Ev
section
variable {v : SV} {x : Rat} {w n : Nat}
end
end Go.Proofs.YtemnjalaincijaaGreat
namespace Go.Proofs.YtemnjalaincijaaGreat
open Go.Ev
theorem wf_int64E {n : Int} (h : (Lit.int .i64 n).wf = true) : -9223372036854775808 ≤ n ∧ n < 9223372036854775808 := by
  have h' : decide (IntKind.i64.min ≤ n ∧ n ≤ IntKind.i64.max) = true := by simpa [Lit.wf] using h
  have := of_decide_eq_true h'
  simp only [show IntKind.i64.min = -9223372036854775808 from rfl, show IntKind.i64.max = 9223372036854775807 from rfl] at this
  omega
theorem law10_big (s : Bool) (n d : List Nat) (hn : n.length ≤ 9223372036854775807) (hd : d.length ≤ 9223372036854775807) : Go.Ev.Fn CX 38 [.sl 1 [.bool s, natV n, natV d]] (.bool (decide (3 < n.length) || decide (3 < d.length))) := by
  refine Go.Ev.Fn.intro (fn := Tryz.f38) (body := (Tryz.f38).body.get!) (by kernel_rfl) (by kernel_rfl) (by kernel_rfl) (fun _ => rfl) (Nat.le_of_ble_eq_true (by kernel_rfl)) ?_; unfold Tryz.f38; simp only [Option.get!_some]
  repeat (first | (simp only [go_sem, Nat.reduceEqDiff, Nat.reduceAdd, Nat.reduceSub, Nat.reduceMul, Nat.reduceLeDiff, Nat.reduceLT, reduceIte, reduceCtorEq, Nat.succ_ne_zero, elemsC, Int.reduceToNat, Nat.reducePow]) | (simp (disch := (first | omega | (simp only [AL, List.length_map]; omega))) only [AR, AL, ifT, ifF, take_all, List.length_cons, List.length_nil, Int.reduceToNat, Int.reducePow, Nat.reducePow]) | (refine wk_intro (by kernel_rfl) ?_))
  refine vp_loop_inv (fun st => st.tmp 0 = .sv (.sl 1 [.bool s, natV n, natV d]) ∧ ((st.tmp 3 = .sv (.int .i64 0)) ∨ (st.tmp 3 = .sv (.int .i64 1) ∧ n.length ≤ 3 ∧ d.length ≤ 3)))
    (fun st => match st.tmp 3 with | .sv (.int _ i) => 1 - i.toNat | _ => 0) ⟨rfl, .inl rfl⟩ ?_
  rintro st ⟨i0, i3 | ⟨i3, h1, h2⟩⟩
  · by_cases h1 : 3 < n.length
    · rw [decide_eq_true h1, Bool.true_or]
      repeat (first | (simp only [go_sem, Nat.reduceEqDiff, Nat.reduceAdd, Nat.reduceSub, Nat.reduceMul, Nat.reduceLeDiff, Nat.reduceLT, reduceIte, reduceCtorEq, Nat.succ_ne_zero, elemsC, Int.reduceToNat, Nat.reducePow, i0, i3]) | (simp (disch := (first | omega | (simp only [AL, List.length_map]; omega))) only [AR, AL, ifT, ifF, take_all, List.length_cons, List.length_nil, Int.reduceToNat, Int.reducePow, Nat.reducePow, i0, i3]) | (refine wk_intro (by kernel_rfl) ?_))
    · rw [decide_eq_false h1, Bool.false_or]
      by_cases h2 : 3 < d.length
      · rw [decide_eq_true h2]
        repeat (first | (simp only [go_sem, Nat.reduceEqDiff, Nat.reduceAdd, Nat.reduceSub, Nat.reduceMul, Nat.reduceLeDiff, Nat.reduceLT, reduceIte, reduceCtorEq, Nat.succ_ne_zero, elemsC, Int.reduceToNat, Nat.reducePow, i0, i3]) | (simp (disch := (first | omega | (simp only [AL, List.length_map]; omega))) only [AR, AL, ifT, ifF, take_all, List.length_cons, List.length_nil, Int.reduceToNat, Int.reducePow, Nat.reducePow, i0, i3]) | (refine wk_intro (by kernel_rfl) ?_))
      · rw [decide_eq_false h2]
        repeat (first | (simp only [go_sem, Nat.reduceEqDiff, Nat.reduceAdd, Nat.reduceSub, Nat.reduceMul, Nat.reduceLeDiff, Nat.reduceLT, reduceIte, reduceCtorEq, Nat.succ_ne_zero, elemsC, Int.reduceToNat, Nat.reducePow, i0, i3]) | (simp (disch := (first | omega | (simp only [AL, List.length_map]; omega))) only [AR, AL, ifT, ifF, take_all, List.length_cons, List.length_nil, Int.reduceToNat, Int.reducePow, Nat.reducePow, i0, i3]) | (refine wk_intro (by kernel_rfl) ?_))
        first | exact ⟨.inr ⟨rfl, by omega, by omega⟩, by decide⟩ | exact ⟨by omega, by omega⟩
  · rw [decide_eq_false (by omega), decide_eq_false (by omega), Bool.or_false]
    repeat (first | (simp only [go_sem, Nat.reduceEqDiff, Nat.reduceAdd, Nat.reduceSub, Nat.reduceMul, Nat.reduceLeDiff, Nat.reduceLT, reduceIte, reduceCtorEq, Nat.succ_ne_zero, elemsC, Int.reduceToNat, Nat.reducePow, i0, i3]) | (simp (disch := (first | omega | (simp only [AL, List.length_map]; omega))) only [AR, AL, ifT, ifF, take_all, List.length_cons, List.length_nil, Int.reduceToNat, Int.reducePow, Nat.reducePow, i0, i3]) | (refine wk_intro (by kernel_rfl) ?_))
theorem ref10_Far {v : SV} {z : Rat} {L : Nat} (hv : RatA v z L) (hL1 : 1 ≤ L) (hL : L ≤ 100) (h : z < -8 ∨ 8 < z) : Go.Ev.Fn CX 28 [v] (.bool true) := by
  have im := ref2_Int (-8) (by omega)
  have ip := ref2_Int 8 (by omega)
  have c1 := ref2_Cmp hv (RatA_rv (int_szR (n := -8) (by omega))) hL1 (by omega) (by omega)
  have c2 := ref2_Cmp hv (RatA_rv (int_szR (n := 8) (by omega))) hL1 (by omega) (by omega)
  by_cases g : z < -8
  · have e1 : decide (cmpR z ((-8 : Int) : Rat) < 0) = true := by rw [cmpR_lt]; exact decide_eq_true g
    clear h
    obtain ⟨s, n, d, rfl, -⟩ := hv
    generalize cmpR z ((-8 : Int) : Rat) = y1 at *
    refine Go.Ev.Fn.intro (fn := Tryz.f28) (body := (Tryz.f28).body.get!) (by kernel_rfl) (by kernel_rfl) (by kernel_rfl) (fun _ => rfl) (Nat.le_of_ble_eq_true (by kernel_rfl)) ?_; unfold Tryz.f28; simp only [Option.get!_some]
    repeat (first | (simp only [go_sem, Nat.reduceEqDiff, Nat.reduceAdd, Nat.reduceSub, Nat.reduceMul, Nat.reduceLeDiff, Nat.reduceLT, reduceIte, reduceCtorEq, Nat.succ_ne_zero, elemsC, Int.reduceToNat, Nat.reducePow, e1]) | (simp (disch := (first | omega | (simp only [AL, List.length_map]; omega))) only [AR, AL, ifT, ifF, take_all, List.length_cons, List.length_nil, Int.reduceToNat, Int.reducePow, Nat.reducePow, e1]) | (refine wk_intro (by kernel_rfl) ?_) | (refine vp_draw (id := 1) (l := []) (by kernel_rfl) ?_) | (refine vf_of (by first | exact im | exact c1) ?_))
  · have e1 : decide (cmpR z ((-8 : Int) : Rat) < 0) = false := by rw [cmpR_lt]; exact decide_eq_false g
    have e2 : decide (cmpR z ((8 : Int) : Rat) > 0) = true := by rw [cmpR_gt]; exact decide_eq_true (h.resolve_left g)
    clear h
    obtain ⟨s, n, d, rfl, -⟩ := hv
    generalize cmpR z ((-8 : Int) : Rat) = y1 at *
    generalize cmpR z ((8 : Int) : Rat) = y2 at *
    refine Go.Ev.Fn.intro (fn := Tryz.f28) (body := (Tryz.f28).body.get!) (by kernel_rfl) (by kernel_rfl) (by kernel_rfl) (fun _ => rfl) (Nat.le_of_ble_eq_true (by kernel_rfl)) ?_; unfold Tryz.f28; simp only [Option.get!_some]
    repeat (first | (simp only [go_sem, Nat.reduceEqDiff, Nat.reduceAdd, Nat.reduceSub, Nat.reduceMul, Nat.reduceLeDiff, Nat.reduceLT, reduceIte, reduceCtorEq, Nat.succ_ne_zero, elemsC, Int.reduceToNat, Nat.reducePow, e1, e2]) | (simp (disch := (first | omega | (simp only [AL, List.length_map]; omega))) only [AR, AL, ifT, ifF, take_all, List.length_cons, List.length_nil, Int.reduceToNat, Int.reducePow, Nat.reducePow, e1, e2]) | (refine wk_intro (by kernel_rfl) ?_) | (refine vp_draw (id := 1) (l := []) (by kernel_rfl) ?_) | (refine vf_of (by first | exact im | exact c1 | exact ip | exact c2) ?_))
theorem half_mk : mkRat 1 2 = (1 / 2 : Rat) := by decide +kernel
theorem known10 : Go.Ev.Fn CX 41 [] (.bool true) := by
  have o := ref2_Of false [1] [2] (by simp [okL]) (by simp [okL]) (by simp) (by simp)
  rw [show wth [1] = 1 from rfl, show wth [2] = 2 from rfl] at o
  have o' : Go.Ev.Fn CX 30 [.bool false, .sl 1 [.int .u32 1], .sl 1 [.int .u32 2]] (rv (mkRat 1 2)) := o
  rw [half_mk] at o'
  have i0 := ref2_Int 0 (by omega)
  rw [show ((0 : Int) : Rat) = 0 from rfl] at i0
  have f := bell_Phi0 (pI := 10) (RatA_rv (szR_zero (L := 3) (by omega)))
  have hs := ref4_Has (a := 1 / 2) (b := 1 / 2) (q := 1 / 2) hlf_len hlf_len (RatA_rv hlf_len) (by omega) (by omega) (by omega) Rat.le_refl Rat.le_refl
  have gd := ref4_Good (p := 10) (P := 10) (.inr rfl) (by omega) hlf_len hlf_len hlf_len hlf_len (by omega) (by omega) (by omega) Rat.le_refl Rat.le_refl Rat.le_refl (by rw [Rat.sub_self, Rat.zero_mul]; decide)
  clear o
  generalize (1 / 2 : Rat) = t at *
  refine Go.Ev.Fn.intro (fn := Tryz.f41) (body := (Tryz.f41).body.get!) (by kernel_rfl) (by kernel_rfl) (by kernel_rfl) (fun _ => rfl) (Nat.le_of_ble_eq_true (by kernel_rfl)) ?_; unfold Tryz.f41; simp only [Option.get!_some]
  repeat (first | (simp only [go_sem, Nat.reduceEqDiff, Nat.reduceAdd, Nat.reduceSub, Nat.reduceMul, Nat.reduceLeDiff, Nat.reduceLT, reduceIte, reduceCtorEq, Nat.succ_ne_zero, elemsC, Int.reduceToNat, Nat.reducePow]) | (simp (disch := (first | omega | (simp only [AL, List.length_map]; omega))) only [AR, AL, ifT, ifF, take_all, List.length_cons, List.length_nil, Int.reduceToNat, Int.reducePow, Nat.reducePow]) | (refine wk_intro (by kernel_rfl) ?_) | (refine vp_draw (id := 2) (l := [11, 12]) (by kernel_rfl) ?_) | (refine vf_of (by first | exact i0 | exact f | exact o' | exact hs | exact gd) ?_))
section
variable {z : Rat} {p : Int} {s : Bool} {n d : List Nat}
end
end Go.Proofs.YtemnjalaincijaaGreat
namespace Go.Proofs.YtemnjalaincijaaGreat
open Go.Ev
theorem mk_in {w A B : Nat} {V : Rat} (h : Enc w A B V) : mkRat (A : Int) (2 ^ w) ≤ V ∧ V ≤ mkRat (B : Int) (2 ^ w) := by
  have P := p2_pos w
  exact ⟨le_by P (by rw [mk_p2]; exact h.1), le_by P (by rw [mk_p2]; exact h.2)⟩
theorem lim_len_p2k {n w : Nat} (h : n ≤ 2 ^ w) : (lim n).length ≤ w / 32 + 2 := by
  have := lim_len_pw (n := n) (w := w + 1) (Nat.lt_of_le_of_lt h (Nat.pow_lt_pow_right (by omega) (by omega)))
  omega
section
variable {v : SV} {x : Rat} {w n p : Nat}
end
end Go.Proofs.YtemnjalaincijaaGreat
namespace Go.Proofs.YtemnjalaincijaaGreat
open Go.Ev
def sLo (neg : Bool) (a b : Nat) : Int := if neg then -(b : Int) else (a : Int)
def sHi (neg : Bool) (a b : Nat) : Int := if neg then -(a : Int) else (b : Int)
abbrev ivS (neg : Bool) (a b : Nat) : SV := ivV (sLo neg a b) (sHi neg a b)
theorem sLo_abs (neg : Bool) {a b : Nat} (h : a ≤ b) : (sLo neg a b).natAbs ≤ b := by
  unfold sLo
  cases neg
  · rw [if_neg (by decide), Int.natAbs_natCast]; exact h
  · rw [if_pos rfl, Int.natAbs_neg, Int.natAbs_natCast]; exact Nat.le_refl _
theorem sHi_abs (neg : Bool) {a b : Nat} (h : a ≤ b) : (sHi neg a b).natAbs ≤ b := by
  unfold sHi
  cases neg
  · rw [if_neg (by decide), Int.natAbs_natCast]; exact Nat.le_refl _
  · rw [if_pos rfl, Int.natAbs_neg, Int.natAbs_natCast]; exact h
theorem loQ_left {a b c d : Nat} (h1 : a ≤ b) (h2 : c ≤ d) : loQ (-(b : Int)) (-(a : Int)) c d = -((b * d : Nat) : Int) ∧ hiQ (-(b : Int)) (-(a : Int)) c d = -((a * c : Nat) : Int) := by
  have e1 : a * c ≤ a * d := Nat.mul_le_mul_left _ h2
  have e2 : a * c ≤ b * c := Nat.mul_le_mul_right _ h1
  have e3 : b * c ≤ b * d := Nat.mul_le_mul_left _ h2
  have e4 : a * d ≤ b * d := Nat.mul_le_mul_right _ h1
  unfold loQ loP hiQ hiP mnZ mxZ
  rw [Int.neg_mul, Int.neg_mul, Int.neg_mul, Int.neg_mul, ← Int.natCast_mul, ← Int.natCast_mul, ← Int.natCast_mul, ← Int.natCast_mul]
  generalize a * c = x1 at *
  generalize a * d = x2 at *
  generalize b * c = x3 at *
  generalize b * d = x4 at *
  constructor <;> (repeat' split) <;> omega
theorem ref4_ProdS {neg : Bool} {a b c d w : Nat} (h1 : a ≤ b) (h2 : c ≤ d) (hb : (lim b).length ≤ 10000) (hd : (lim d).length ≤ 10000) (hw : w ≤ 4096) (h0 : 0 < w) :
    Go.Ev.Fn CX 109 [ivS neg a b, ivN c d, .int .i64 (w : Int)] (ivS neg (a * c / 2 ^ w) (cdv (b * d) (2 ^ w))) := by
  have P : 0 < 2 ^ w := Nat.pow_pos (by omega)
  cases neg with
  | false =>
    have h := ref4_ProdN h1 h2 hb hd hw h0
    rw [← ivN_eq, ← ivN_eq, ← ivN_eq] at h
    rw [← ivN_eq]
    exact h
  | true =>
    have la := lim_len_mono h1
    have lc := lim_len_mono h2
    have h := ref4_Prod (a := -(b : Int)) (b := -(a : Int)) (c := (c : Int)) (d := (d : Int)) (w := w) (by rw [Int.natAbs_neg, Int.natAbs_natCast]; omega) (by rw [Int.natAbs_neg, Int.natAbs_natCast]; omega) (by rw [Int.natAbs_natCast]; omega) (by rw [Int.natAbs_natCast]; omega) hw h0
    rw [(loQ_left h1 h2).1, (loQ_left h1 h2).2, divZ_neg P, cdZ_neg] at h
    rw [← ivN_eq]
    exact h
theorem ref4_BackS {neg : Bool} {a b n : Nat} (h1 : a ≤ b) (hb : (lim b).length ≤ 10000) (hn : n ≤ 4096) (h0 : 0 < n) : Go.Ev.Fn CX 105 [ivS neg a b, .int .i64 (n : Int)] (ivS neg (a / 2 ^ n) (cdv b (2 ^ n))) := by
  have P : 0 < 2 ^ n := Nat.pow_pos (by omega)
  have la := lim_len_mono h1
  cases neg with
  | false =>
    have h := ref4_BackN (a := a) (b := b) (n := n) (by omega) (by omega) hn h0
    rw [← ivN_eq, ← ivN_eq] at h
    exact h
  | true =>
    have h := ref4_Back (a := -(b : Int)) (b := -(a : Int)) (by rw [Int.natAbs_neg, Int.natAbs_natCast]; omega) (by rw [Int.natAbs_neg, Int.natAbs_natCast]; omega) n hn h0
    rw [divZ_neg P, cdZ_neg] at h
    exact h
theorem ref4_NumS {neg : Bool} {v : SV} {y : Rat} {L w : Nat} (hv : RatA v (if neg then -y else y) L) (hL1 : 1 ≤ L) (hL : L ≤ 100000) (hw : w ≤ 4096) (h0 : 0 ≤ y) : Go.Ev.Fn CX 98 [v, .int .i64 (w : Int)] (ivS neg (unN y w) (upN y w)) := by
  cases neg with
  | false =>
    have h := ref4_NumN (show RatA v y L from hv) hL1 hL hw h0
    rw [← ivN_eq] at h
    exact h
  | true => exact ref4_NumNeg (show RatA v (-y) L from hv) hL1 hL hw h0
section
variable {v : SV} {x : Rat} {w n : Nat}
theorem ref10_half {L : Nat} (hv : RatA v x L) (hL1 : 1 ≤ L) (hL : L ≤ 1000) : Go.Ev.Fn CX 108 [v] (rv (x * mkRat 1 2)) := by
  have oh := ref2_Of false [1] [2] (by simp [okL]) (by simp [okL]) (by simp) (by simp)
  rw [show wth [1] = 1 from rfl, show wth [2] = 2 from rfl] at oh
  have oh' : Go.Ev.Fn CX 30 [.bool false, .sl 1 [.int .u32 1], .sl 1 [.int .u32 2]] (rv (mkRat 1 2)) := oh
  have mu := ref2_Mul hv (RatA_rv half_len) hL1 (by omega) (by omega)
  clear oh
  generalize x * mkRat 1 2 = y at *
  generalize mkRat 1 2 = h at *
  obtain ⟨s, N, D, rfl, -⟩ := hv
  refine Go.Ev.Fn.intro (fn := Tryz.f108) (body := (Tryz.f108).body.get!) (by kernel_rfl) (by kernel_rfl) (by kernel_rfl) (fun _ => rfl) (Nat.le_of_ble_eq_true (by kernel_rfl)) ?_; unfold Tryz.f108; simp only [Option.get!_some]
  repeat (first | (simp only [go_sem, Nat.reduceEqDiff, Nat.reduceAdd, Nat.reduceSub, Nat.reduceMul, Nat.reduceLeDiff, Nat.reduceLT, reduceIte, reduceCtorEq, Nat.succ_ne_zero, elemsC, Int.reduceToNat, Nat.reducePow]) | (simp (disch := (first | omega | (simp only [AL, List.length_map]; omega))) only [AR, AL, ifT, ifF, take_all, List.length_cons, List.length_nil, Int.reduceToNat, Int.reducePow, Nat.reducePow]) | (refine wk_intro (by kernel_rfl) ?_) | (refine vp_draw (id := 1) (l := [4, 5]) (by kernel_rfl) ?_) | (refine vf_of (by first | exact oh' | exact mu) ?_))
theorem ref10_root (hn : n = 1 ∨ n = 2) (hw0 : 50 ≤ w) (hw : w ≤ 360) :
    ∃ A B : Nat, ∃ r1 r2 : Rat, Go.Ev.Fn CX 104 [.int .i64 (n : Int), .int .i64 (w : Int)] (ivN A B) ∧ A ≤ B ∧ (lim B).length ≤ 60 ∧ 0 ≤ r1 ∧ 0 ≤ r2 ∧ r1 * r1 ≤ (n : Rat) * (SQ * SQ) ∧ (n : Rat) * (SQ * SQ) ≤ r2 * r2 ∧ ∀ r, r1 ≤ r → r ≤ r2 → Enc w A B (1 / r) := by
  obtain ⟨PL, PH, hpi, p1, p2', p3, p4, p5⟩ := iv_piB (W := w) hw0 hw
  have fp := ref8_PiIv (w := w) (by omega) hpi
  have P : 2 ^ 8 ≤ 2 ^ w := Nat.pow_le_pow_right (by omega) (by omega)
  have lPH := lim_len_p2 (n := PH) p5 (by omega)
  have lPL := lim_len_mono p4
  have q0 : 0 ≤ SQ * SQ := by decide +kernel
  obtain ⟨QL, QH, q1, q2, q3, eq, nn, of⟩ : ∃ QL QH : Nat, 2 ^ w ≤ QL ∧ QL ≤ QH ∧ QH ≤ 2 ^ (w + 4) ∧ Enc w QL QH ((n : Rat) * (SQ * SQ)) ∧ 0 ≤ (n : Rat) * (SQ * SQ) ∧ ((n = 1 ∧ QL = PL ∧ QH = PH) ∨ (n = 2 ∧ Go.Ev.Fn CX 103 [ivN PL PH, .int .i64 2] (ivN QL QH))) := by
    have e34 : 2 ^ (w + 4) = 2 ^ (w + 3) * 2 := Nat.pow_succ _ _
    rcases hn with rfl | rfl
    · refine ⟨PL, PH, p3, p4, by omega, ?_, ?_, .inl ⟨rfl, rfl, rfl⟩⟩
      · rw [show ((1 : Nat) : Rat) = 1 from rfl, Rat.one_mul]; exact ⟨p1, p2'⟩
      · exact Rat.mul_nonneg (nat_nonneg _) q0
    · have e := enc_oftenN (show Enc w PL PH (SQ * SQ) from ⟨p1, p2'⟩)
      refine ⟨PL * 2, PH * 2, by omega, by omega, by omega, ?_, Rat.mul_nonneg (nat_nonneg _) q0, .inr ⟨rfl, ref4_OftenN (n := 2) (by omega) (by omega) (by omega)⟩⟩
      rw [show ((2 : Nat) : Rat) = 2 from rfl, Rat.mul_comm]; exact e
  have lQH := lim_len_p2 (n := QH) q3 (by omega)
  have lQL := lim_len_mono q2
  obtain ⟨r1, r2, a0, a1, a2, a3, es⟩ := sqrt_pts nn eq
  have sq := ref4_SqrtN (a := QL) (b := QH) (w := w) (by omega) (by omega) (by omega)
  have q12 : rtN (QL * 2 ^ w) ≤ rtN (QH * 2 ^ w) + 1 := Nat.le_succ_of_le (rtN_mono (Nat.mul_le_mul_right _ q2))
  have rl : 2 ^ w ≤ rtN (QL * 2 ^ w) := by
    have h := rtN_mono (Nat.mul_le_mul_right (2 ^ w) q1)
    rw [← rtN_eq (a := 2 ^ w * 2 ^ w) (r := 2 ^ w) (Nat.le_refl _) (Nat.mul_lt_mul'' (by omega) (by omega))] at h
    exact h
  have lr : (lim (rtN (QH * 2 ^ w) + 1)).length ≤ 40 := by
    have a : QH * 2 ^ w ≤ 2 ^ (w + 4 + w) := by rw [Nat.pow_add _ (w + 4) w]; exact Nat.mul_le_mul_right _ q3
    have b := rtN_self (QH * 2 ^ w)
    refine lim_len_p2 (w := w + 4 + w + 1) ?_ (by omega)
    rw [Nat.pow_succ]
    have : 0 < 2 ^ (w + 4 + w) := Nat.pow_pos (by omega)
    omega
  have rp : 0 < rtN (QL * 2 ^ w) := by omega
  have iv := ref4_InvN (a := rtN (QL * 2 ^ w)) (b := rtN (QH * 2 ^ w) + 1) (w := w) rp q12 (by omega) (by omega)
  have i12 : 2 ^ (2 * w) / (rtN (QH * 2 ^ w) + 1) ≤ cdv (2 ^ (2 * w)) (rtN (QL * 2 ^ w)) := Nat.le_trans (Nat.div_le_div_left q12 rp) (div_le_cdv rp (Nat.le_refl _))
  have li := lim_len_p2 (n := cdv (2 ^ (2 * w)) (rtN (QL * 2 ^ w))) (w := 2 * w) (cdv_self _ rp) (by omega)
  refine ⟨_, _, r1, r2, ?_, i12, by omega, a0, a2, a1, a3, fun r g1 g2 => enc_invN rp (es r g1 g2)⟩
  clear es a0 a1 a2 a3 nn eq p1 p2' p3 p5 q1 q3 rl q0
  generalize 2 ^ (2 * w) / (rtN (QH * 2 ^ w) + 1) = I1 at *
  generalize cdv (2 ^ (2 * w)) (rtN (QL * 2 ^ w)) = I2 at *
  generalize rtN (QL * 2 ^ w) = R1 at *
  generalize rtN (QH * 2 ^ w) + 1 = R2 at *
  rcases of with ⟨rfl, rfl, rfl⟩ | ⟨rfl, of⟩
  · refine Go.Ev.Fn.intro (fn := Tryz.f104) (body := (Tryz.f104).body.get!) (by kernel_rfl) (by kernel_rfl) (by kernel_rfl) (fun _ => rfl) (Nat.le_of_ble_eq_true (by kernel_rfl)) ?_; unfold Tryz.f104; simp only [Option.get!_some]
    repeat (first | (simp only [go_sem, Nat.reduceEqDiff, Nat.reduceAdd, Nat.reduceSub, Nat.reduceMul, Nat.reduceLeDiff, Nat.reduceLT, reduceIte, reduceCtorEq, Nat.succ_ne_zero, elemsC, Int.reduceToNat, Nat.reducePow]) | (simp (disch := (first | omega | (simp only [AL, List.length_map]; omega))) only [AR, AL, ifT, ifF, take_all, List.length_cons, List.length_nil, Int.reduceToNat, Int.reducePow, Nat.reducePow]) | (refine wk_intro (by kernel_rfl) ?_) | (refine vf_of (by first | exact fp | exact sq | exact iv) ?_))
  · refine Go.Ev.Fn.intro (fn := Tryz.f104) (body := (Tryz.f104).body.get!) (by kernel_rfl) (by kernel_rfl) (by kernel_rfl) (fun _ => rfl) (Nat.le_of_ble_eq_true (by kernel_rfl)) ?_; unfold Tryz.f104; simp only [Option.get!_some]
    repeat (first | (simp only [go_sem, Nat.reduceEqDiff, Nat.reduceAdd, Nat.reduceSub, Nat.reduceMul, Nat.reduceLeDiff, Nat.reduceLT, reduceIte, reduceCtorEq, Nat.succ_ne_zero, elemsC, Int.reduceToNat, Nat.reducePow]) | (simp (disch := (first | omega | (simp only [AL, List.length_map]; omega))) only [AR, AL, ifT, ifF, take_all, List.length_cons, List.length_nil, Int.reduceToNat, Int.reducePow, Nat.reducePow]) | (refine wk_intro (by kernel_rfl) ?_) | (refine vf_of (by first | exact fp | exact of | exact sq | exact iv) ?_))
set_option maxHeartbeats 1000000 in
theorem ref10_row {L : Nat} (hv : RatA v x L) (hL1 : 1 ≤ L) (hL : L ≤ 50) (h0 : 0 ≤ x) (h128 : x ≤ 128) (hw0 : 40 ≤ w) (hw : w ≤ 900) :
    ∃ A B : Nat, Go.Ev.Fn CX 155 [v, .int .i64 (w : Int)] (ivN A B) ∧ A ≤ B ∧ (lim B).length ≤ 100 ∧ ∃ s0, ∀ L, s0 ≤ L → Enc w A B (sk x 3 L) := by
  have zx := szR_of hv hL1
  have nb := ref4_NumN (w := w) hv hL1 (by omega) (by omega) h0
  have n1 := ref4_NumN (w := w) (RatA_rv (one_szR')) (by omega) (by omega) (by omega) (show (0 : Rat) ≤ 1 by decide)
  have u1 : unN 1 w = 2 ^ w := by show 1 * 2 ^ w / 1 = _; rw [Nat.one_mul, Nat.div_one]
  have u2 : upN 1 w = 2 ^ w := by show cdv (1 * 2 ^ w) 1 = _; unfold cdv; rw [Nat.one_mul, Nat.div_one]; omega
  rw [u1, u2] at n1
  have i1 := ref2_Int 1 (by omega)
  rw [show ((1 : Int) : Rat) = 1 from rfl] at i1
  have en := num_enc h0 w
  have y12 := un_up (q := x) w
  have yT : upN x w ≤ 2 ^ w * 128 := upN_le (n := 128) (m := 1) h0 (by
    rw [show ((128 : Nat) : Rat) = 128 from rfl, show ((1 : Nat) : Rat) = 1 from rfl]; grind) (by omega) (by omega)
  have P8 : 2 ^ 8 ≤ 2 ^ w := Nat.pow_le_pow_right (by omega) (by omega)
  have ok := dInv_0 w 3
  obtain ⟨F, hF⟩ : ∃ F : Nat, F = 2100 := ⟨_, rfl⟩
  obtain ⟨A, B, hr, hAB, hB⟩ := dRow_end (y := x) (k0 := 3) yT y12 (by omega) h128 (by omega) (by omega) 127 F 0 3 _ _ _ _ ok (by omega) (by omega) (by omega)
  have e7 : 2 ^ (w + 8) = 2 ^ w * 256 := Nat.pow_add _ _ _
  have lB := lim_len_pw (n := B) (w := w + 909) (Nat.lt_of_le_of_lt hB (Nat.pow_lt_pow_right (by omega) (by omega)))
  have ly2 := lim_len_pw (n := upN x w) (w := w + 8) (by omega)
  refine ⟨A, B, ?_, hAB, by omega, dRow_enc (by omega) en F 0 _ _ _ _ A B hr sq_one (by show Enc w _ _ (0 + 1); rw [Rat.zero_add]; exact sq_one)⟩
  have lens := fun (i k t1 t2 s1 s2 : Nat) (hi : i ≤ F) (h : dInv w 3 i k t1 t2 s1 s2) => (show (lim t1).length ≤ 100 ∧ (lim t2).length ≤ 100 ∧ (lim s1).length ≤ 100 ∧ (lim s2).length ≤ 100 ∧ 8 ≤ s1 from by
    obtain ⟨q1, q2, q3, q4, q5, q6⟩ := h
    have up : 2 ^ (w + 7 * min i 128) < 2 ^ (w + 897) := Nat.pow_lt_pow_right (by omega) (by omega)
    have a := lim_len_pw (n := t2) (w := w + 897) (by omega)
    have b := lim_len_mono q2
    have s : (i + 1) * 2 ^ (w + 896) < 2 ^ (w + 909) := by
      rw [show w + 909 = 13 + (w + 896) by omega, Nat.pow_add 2 13]
      exact Nat.mul_lt_mul_of_pos_right (by omega) (Nat.pow_pos (by omega))
    have c := lim_len_pw (n := s2) (w := w + 909) (by omega)
    have d := lim_len_mono q5
    exact ⟨by omega, by omega, by omega, by omega, by omega⟩)
  have step := fun (i k t1 t2 s1 s2 : Nat) (h : dInv w 3 i k t1 t2 s1 s2) => dInv_step yT y12 (show 1 ≤ 3 by omega) h
  have w2 := ref4_Whole 2 (by omega)
  rw [show (2 : Int) = ((2 : Nat) : Int) from rfl, intN_eq] at w2
  have l2 : (lim 2).length ≤ 1 := lim_len_one (by decide)
  have j4 := ref2_Int 2 (by omega)
  have m4 := ref2_Mul hv (RatA_rv (int_szR (n := 2) (by omega))) hL1 (by omega) (by omega)
  have zm := szR_mul zx (int_szR (n := 2) (by omega)) hL1
  have e4 : x * ((2 : Int) : Rat) = x + x := by rw [show ((2 : Int) : Rat) = 2 from rfl]; exact dbl_two x
  rw [e4] at m4 zm
  obtain ⟨W1, hW1⟩ : ∃ W1 : Nat, W1 = 2 ^ w := ⟨_, rfl⟩
  rw [← hW1] at n1 ok hr
  have rnd : ∀ (k t1 t2 : Nat), 0 < k → k < 10000 → t1 ≤ t2 → (lim t2).length ≤ 100 → Go.Ev.Fn CX 109 [ivN t1 t2, ivN (unN x w) (upN x w), .int .i64 (w : Int)] (ivN (t1 * unN x w / 2 ^ w) (cdv (t2 * upN x w) (2 ^ w))) ∧
      Go.Ev.Fn CX 184 [ivN (t1 * unN x w / 2 ^ w) (cdv (t2 * upN x w) (2 ^ w)), .int .i64 (k : Int)] (ivN (t1 * unN x w / 2 ^ w / k) (cdv (cdv (t2 * upN x w) (2 ^ w)) k)) := by
    intro k t1 t2 hk hk2 ht lt
    have P : 0 < 2 ^ w := Nat.pow_pos (by omega)
    have z := lim_len_mul (a := t2) (b := upN x w)
    have z2 := lim_len_mono (cdv_self (t2 * upN x w) P)
    have v12 : t1 * unN x w / 2 ^ w ≤ cdv (t2 * upN x w) (2 ^ w) := div_le_cdv P (Nat.mul_le_mul ht y12)
    have z3 := lim_len_mono v12
    exact ⟨ref4_ProdN ht y12 (by omega) (by omega) (by omega) (by omega), ref4_ByN (by omega) (by omega) hk (by omega)⟩
  clear u1 u2 en hAB hB lB e7 P8 yT h0 h128
  generalize unN x w = y1 at *
  generalize upN x w = y2 at *
  obtain ⟨s0, n0, d0, rfl, -⟩ := hv
  refine Go.Ev.Fn.intro (fn := Tryz.f155) (body := (Tryz.f155).body.get!) (by kernel_rfl) (by kernel_rfl) (by kernel_rfl) (fun _ => rfl) (Nat.le_of_ble_eq_true (by kernel_rfl)) ?_; unfold Tryz.f155; simp only [Option.get!_some]
  repeat (first | (simp only [go_sem, Nat.reduceEqDiff, Nat.reduceAdd, Nat.reduceSub, Nat.reduceMul, Nat.reduceLeDiff, Nat.reduceLT, reduceIte, reduceCtorEq, Nat.succ_ne_zero, elemsC, Int.reduceToNat, Nat.reducePow]) | (simp (disch := (first | omega | (simp only [AL, List.length_map]; omega))) only [AR, AL, ifT, ifF, take_all, List.length_cons, List.length_nil, Int.reduceToNat, Int.reducePow, Nat.reducePow]) | (refine wk_intro (by kernel_rfl) ?_) | (refine vp_draw (id := 3) (l := []) (by kernel_rfl) ?_) | (refine vp_draw (id := 8) (l := []) (by kernel_rfl) ?_) | (refine vf_of (by first | exact nb | exact i1 | exact n1) ?_))
  refine vp_loop_inv (fun s => s.tmp 1 = .sv (.int .i64 (w : Int)) ∧ s.tmp 2 = .ptr 2 0 0 ∧ s.obj 2 0 = some [.bool s0, natV n0, natV d0] ∧ s.tmp 4 = .ptr 4 0 0 ∧ s.obj 4 0 = some [.bool false, .sl 0 [], .bool false, .sl 0 []] ∧
      s.tmp 5 = .ptr 5 0 0 ∧ s.obj 5 0 = some [.bool false, natV (lim y1), .bool false, natV (lim y2)] ∧ s.tmp 7 = .ptr 7 0 0 ∧ s.tmp 8 = .ptr 8 0 0 ∧
      ∃ f i t1 t2 s1 s2 : Nat, s.tmp 9 = .sv (.int .i64 ((i + 1 : Nat) : Int)) ∧ f + i = F ∧ dRow w y1 y2 x f (3 + 2 * i) t1 t2 s1 s2 = some (A, B) ∧ s.obj 7 0 = some [.bool false, natV (lim s1), .bool false, natV (lim s2)] ∧ s.obj 8 0 = some [.bool false, natV (lim t1), .bool false, natV (lim t2)] ∧ dInv w 3 i (3 + 2 * i) t1 t2 s1 s2)
    (fun s => match s.tmp 9 with | .sv (.int _ i) => F + 2 - i.toNat | _ => 0) ⟨rfl, rfl, rfl, rfl, rfl, rfl, rfl, rfl, rfl, F, 0, _, _, _, _, rfl, by omega, hr, rfl, rfl, ok⟩ ?_
  rintro s ⟨i1', i2', o2, i4, o4, i5, o5, i7, i8, f, i, t1, t2, s1, s2, i9, hfi, hgo, o7, o8, hok⟩
  obtain ⟨lt1, lt2, la1, la2, -⟩ := lens i _ t1 t2 s1 s2 (by omega) hok
  have st := step i _ t1 t2 s1 s2 hok
  cases f with
  | zero => simp only [dRow] at hgo; cases hgo
  | succ f =>
    obtain ⟨lu1, lu2, lb1, lb2, ge8⟩ := lens (i + 1) (3 + 2 * i + 2) _ _ _ _ (by omega) st
    obtain ⟨pr, by1⟩ := rnd (3 + 2 * i) t1 t2 (by omega) (by omega) hok.2.1 lt2
    have u12 := st.2.1
    rw [dRow] at hgo
    generalize t1 * y1 / 2 ^ w / (3 + 2 * i) = u1 at *
    generalize cdv (cdv (t2 * y2) (2 ^ w)) (3 + 2 * i) = u2 at *
    generalize t1 * y1 / 2 ^ w = v1 at *
    generalize cdv (t2 * y2) (2 ^ w) = v2' at *
    have sm := ref4_SumNN (a := s1) (b := s2) (c := u1) (d := u2) (by omega) (by omega) (by omega) (by omega)
    have mo := ref4_MostN (a := u1) (b := u2) u12 (by omega)
    have cc := ref4_CmpN (a := u2) (b := 2) (by omega) (by omega)
    have ec : decide (cmpZ ((u2 : Nat) : Int) ((2 : Nat) : Int) ≤ 0) = decide (u2 ≤ 2) := by rw [cmpZ_le]; exact decide_eq_decide.2 (by omega)
    generalize cmpZ ((u2 : Nat) : Int) ((2 : Nat) : Int) = z at *
    have j2 := ref2_Int ((3 + 2 * i + 2 : Nat) : Int) (by omega)
    have cm := ref2_Cmp (RatA_rv zm) (RatA_rv (int_szR (n := ((3 + 2 * i + 2 : Nat) : Int)) (by omega))) (by omega) (by omega) (by omega)
    have ex : decide (cmpR (x + x) (((3 + 2 * i + 2 : Nat) : Int) : Rat) ≤ 0) = decide (x + x ≤ ((3 + 2 * i + 2 : Nat) : Rat)) := cmpR_le
    generalize cmpR (x + x) (((3 + 2 * i + 2 : Nat) : Int) : Rat) = zc at *
    have wd := ref4_WideN (a := s1 + u1) (b := s2 + u2) (n := 8) (by omega) (by omega) ge8 (by omega)
    generalize hNI : ((3 + 2 * i + 2 : Nat) : Int) = NI at *
    generalize hNR : ((3 + 2 * i + 2 : Nat) : Rat) = NR at *
    generalize (NI : Rat) = NIR at *
    rw [← hNI, show ((3 + 2 * i + 2 : Nat) : Int) = 2 * ((i : Int) + 1) + 3 by omega] at j2
    rw [show ((3 + 2 * i : Nat) : Int) = 2 * ((i : Int) + 1) + 1 by omega] at by1
    rw [show ((i + 1 : Nat) : Int) = (i : Int) + 1 by omega] at i9
    generalize x + x = yy at *
    clear lens step rnd hr
    by_cases hu : u2 ≤ 2
    · rw [decide_eq_true hu] at ec
      by_cases hx : yy ≤ NR
      · rw [decide_eq_true hx] at ex
        rw [if_pos ⟨hu, hx⟩] at hgo
        simp only [Option.some.injEq, Prod.mk.injEq] at hgo
        rw [hgo.1, hgo.2] at wd
        clear hgo st hok
        repeat (first | (simp only [go_sem, Nat.reduceEqDiff, Nat.reduceAdd, Nat.reduceSub, Nat.reduceMul, Nat.reduceLeDiff, Nat.reduceLT, reduceIte, reduceCtorEq, Nat.succ_ne_zero, elemsC, Int.reduceToNat, Nat.reducePow, i1', i2', o2, i4, o4, i5, o5, i7, i8, i9, o7, o8, ec, ex]) | (simp (disch := (first | omega | (simp only [AL, List.length_map]; omega))) only [AR, AL, ifT, ifF, take_all, List.length_cons, List.length_nil, Int.reduceToNat, Int.reducePow, Nat.reducePow, i1', i2', o2, i4, o4, i5, o5, i7, i8, i9, o7, o8, ec, ex]) | (refine wk_intro (by kernel_rfl) ?_) | (refine vp_draw (id := 3) (l := []) (by kernel_rfl) ?_) | (refine vp_draw (id := 8) (l := []) (by kernel_rfl) ?_) | (refine vf_of (by first | exact pr | exact by1 | exact sm | exact mo | exact w2 | exact cc | exact j4 | exact m4 | exact j2 | exact cm | exact wd) ?_))
      · rw [decide_eq_false hx] at ex
        rw [if_neg (fun h => hx h.2)] at hgo
        repeat (first | (simp only [go_sem, Nat.reduceEqDiff, Nat.reduceAdd, Nat.reduceSub, Nat.reduceMul, Nat.reduceLeDiff, Nat.reduceLT, reduceIte, reduceCtorEq, Nat.succ_ne_zero, elemsC, Int.reduceToNat, Nat.reducePow, i1', i2', o2, i4, o4, i5, o5, i7, i8, i9, o7, o8, ec, ex]) | (simp (disch := (first | omega | (simp only [AL, List.length_map]; omega))) only [AR, AL, ifT, ifF, take_all, List.length_cons, List.length_nil, Int.reduceToNat, Int.reducePow, Nat.reducePow, i1', i2', o2, i4, o4, i5, o5, i7, i8, i9, o7, o8, ec, ex]) | (refine wk_intro (by kernel_rfl) ?_) | (refine vp_draw (id := 3) (l := []) (by kernel_rfl) ?_) | (refine vp_draw (id := 8) (l := []) (by kernel_rfl) ?_) | (refine vf_of (by first | exact pr | exact by1 | exact sm | exact mo | exact w2 | exact cc | exact j4 | exact m4 | exact j2 | exact cm) ?_))
        exact ⟨⟨f, i + 1, u1, u2, s1 + u1, s2 + u2, by first | rfl | (congr 2; omega), by omega, by rw [show 3 + 2 * (i + 1) = 3 + 2 * i + 2 by omega]; exact hgo, rfl, rfl, by rw [show 3 + 2 * (i + 1) = 3 + 2 * i + 2 by omega]; exact st⟩, by omega⟩
    · rw [decide_eq_false hu] at ec
      rw [if_neg (fun h => hu h.1)] at hgo
      repeat (first | (simp only [go_sem, Nat.reduceEqDiff, Nat.reduceAdd, Nat.reduceSub, Nat.reduceMul, Nat.reduceLeDiff, Nat.reduceLT, reduceIte, reduceCtorEq, Nat.succ_ne_zero, elemsC, Int.reduceToNat, Nat.reducePow, i1', i2', o2, i4, o4, i5, o5, i7, i8, i9, o7, o8, ec]) | (simp (disch := (first | omega | (simp only [AL, List.length_map]; omega))) only [AR, AL, ifT, ifF, take_all, List.length_cons, List.length_nil, Int.reduceToNat, Int.reducePow, Nat.reducePow, i1', i2', o2, i4, o4, i5, o5, i7, i8, i9, o7, o8, ec]) | (refine wk_intro (by kernel_rfl) ?_) | (refine vp_draw (id := 3) (l := []) (by kernel_rfl) ?_) | (refine vp_draw (id := 8) (l := []) (by kernel_rfl) ?_) | (refine vf_of (by first | exact pr | exact by1 | exact sm | exact mo | exact w2 | exact cc) ?_))
      exact ⟨⟨f, i + 1, u1, u2, s1 + u1, s2 + u2, by first | rfl | (congr 2; omega), by omega, by rw [show 3 + 2 * (i + 1) = 3 + 2 * i + 2 by omega]; exact hgo, rfl, rfl, by rw [show 3 + 2 * (i + 1) = 3 + 2 * i + 2 by omega]; exact st⟩, by omega⟩
end
end Go.Proofs.YtemnjalaincijaaGreat
namespace Go.Proofs.YtemnjalaincijaaGreat
open Go.Ev
theorem root_width4 {lo lo' hi' hi A B P : Rat} (hP : 0 < P) (a2 : lo ≤ lo') (a4 : A ≤ lo' * lo') (a5 : (lo' - lo) * P ≤ 1) (h0 : 0 ≤ lo) (b1 : 0 ≤ hi') (b3 : hi' * hi' ≤ B) (b5 : (hi - hi') * P ≤ 1) (hA : 1 ≤ A) (hAB : (B - A) * P ≤ 2) (hAB0 : A ≤ B) : (hi - lo) * P ≤ 4 := by
  have l0 : 0 ≤ lo' := Rat.le_trans h0 a2
  have l1 : 1 ≤ lo' := sq_mono (by decide) l0 (by rw [Rat.mul_one]; exact Rat.le_trans hA a4)
  have key : hi' - lo' ≤ B - A := by
    rcases Rat.le_total (a := hi') (b := lo') with g | g
    · grind
    · have h1 : (hi' - lo') * 1 ≤ (hi' - lo') * (hi' + lo') := Rat.mul_le_mul_of_nonneg_left (by grind) (by grind)
      have h2 : (hi' - lo') * (hi' + lo') = hi' * hi' - lo' * lo' := by grind
      grind
  have k2 := Rat.mul_le_mul_of_nonneg_right key (show 0 ≤ P by grind)
  have e : (hi - lo) * P = (hi - hi') * P + (hi' - lo') * P + (lo' - lo) * P := by grind
  grind
def beR : Nat × Nat := match wSt 129 41 300 3 9 1 9 1 with
  | (_, _, s, e) => (s + 20000, e + 100000)
def beOk : Bool := match wSt 129 41 300 3 9 1 9 1 with
  | (t', d', s, e) => Nat.ble t' 4 && Nat.ble d' 20 && pin ((s + 20001) * 2 + 1) fun u => pin ((e + 100008) * 2 + (s + 20001) * 2 + 2) fun v => Nat.ble (v * 2 + u * 8 + 2) (2 ^ 120)
theorem be_ok : beOk = true := by kernel_rfl
theorem be_at : (((beR.2 + 8) * 2 + (beR.1 + 1) * 2 + 2) * 2 + ((beR.1 + 1) * 2 + 1) * 8 + 2 ≤ 2 ^ 120) ∧ (wRow 129 41 5200 3 9 1 9 1).1 ≤ beR.1 ∧ (wRow 129 41 5200 3 9 1 9 1).2 ≤ beR.2 := by
  have h := be_ok
  unfold beOk at h
  unfold beR
  have st := fun t' d' s' e' => wRow_st 300 4900 3 9 1 9 1 (t' := t') (d' := d') (s' := s') (e' := e')
  rw [show 300 + 4900 = 5200 from rfl] at st
  generalize wRow 129 41 5200 3 9 1 9 1 = R at *
  generalize wSt 129 41 300 3 9 1 9 1 = r at *
  obtain ⟨t', d', s, e⟩ := r
  generalize 2 ^ 120 = K1 at *
  simp only [pin_eq, Bool.and_eq_true] at h
  obtain ⟨⟨g1, g2⟩, g3⟩ := h
  obtain ⟨a, b⟩ := st t' d' s e rfl (Nat.le_of_ble_eq_true g1) (Nat.le_of_ble_eq_true g2) (by omega)
  exact ⟨Nat.le_of_ble_eq_true g3, Nat.le_trans a (show s + 4 * 4900 ≤ s + 20000 by omega), Nat.le_trans b (show e + 20 * 4900 ≤ e + 100000 by omega)⟩
theorem two_64 {y m c : Rat} (h : y ≤ 64 * m) (g : m * 128 ≤ c) : y + y ≤ c := by grind
theorem le_64 {z : Rat} (a : z * z ≤ z * 8) (h : z ≤ 8) : z * z ≤ 64 := by grind
section
variable {n d w many : Nat}
theorem bell_rowE (hd : 0 < d) (hn : n ≤ 8 * d) (hm : 1 ≤ many) (hm2 : many ≤ 2) (ln : (lim n).length ≤ 100) (ld : (lim d).length ≤ 100) (hw0 : 8 ≤ w) (hw : w ≤ 1000) :
    ∃ A B : Nat, A ≤ B ∧ B < 2 ^ (w + 10014) ∧ B ≤ (beR.1 + 1) * 2 ^ w ∧ B ≤ A + (beR.2 + 8) ∧ (∀ s : Bool, Go.Ev.Fn CX 146 [ratV s (lim n) (lim d), .int .u64 (many : Int), .int .i64 (w : Int)] (spanV A B)) ∧
      ∀ z : Rat, z * (d : Rat) = (n : Rat) → ∃ s0, ∀ L, s0 ≤ L → Enc w A B (z * sk (z * z * (many : Rat)) 3 L) := by
  have fr := fun s => fix_RatS (s := s) (n := n) (d := d) (w := w) hd (by omega) (by omega) (by omega)
  have P : 2 ^ 8 ≤ 2 ^ w := Nat.pow_le_pow_right (by omega) hw0
  have Tle : n * 2 ^ w / d ≤ 2 ^ w * 8 := by
    refine (Nat.div_le_iff_le_mul hd).2 ?_
    have m := Nat.mul_le_mul_right (2 ^ w) hn
    have e : 8 * d * 2 ^ w = 2 ^ w * 8 * d := by rw [Nat.mul_comm, ← Nat.mul_assoc]
    omega
  have dR : (0 : Rat) < (d : Rat) := by exact_mod_cast hd
  have ez : ∀ z : Rat, z * (d : Rat) = (n : Rat) → Enc w (n * 2 ^ w / d) (n * 2 ^ w / d + 1) z := by
    intro z hz
    have f := floor_le (a := n * 2 ^ w) (d := d)
    have g := le_floor (a := n * 2 ^ w) (d := d) hd
    have k : ((n * 2 ^ w : Nat) : Rat) = z * p2 w * (d : Rat) := by
      have : ((n * 2 ^ w : Nat) : Rat) = (n : Rat) * p2 w := by exact_mod_cast rfl
      rw [this, ← hz]; grind
    rw [k] at f g
    exact ⟨le_by dR f, le_by dR g⟩
  have z8 : ∀ z : Rat, z * (d : Rat) = (n : Rat) → z ≤ 8 := by
    intro z hz
    refine le_by dR ?_
    rw [hz]
    have := Ex.castle hn
    rw [Ex.castmul] at this; exact this
  generalize n * 2 ^ w / d = T at *
  have e9 : 2 ^ (w + 9) = 2 ^ w * 512 := Nat.pow_add _ _ _
  have e8 : 2 ^ (w + 8) = 2 ^ w * 256 := Nat.pow_add _ _ _
  have e10 : 2 ^ (w + 10) = 2 ^ w * 1024 := Nat.pow_add _ _ _
  have lT := lim_len_pw (n := T) (w := w + 9) (by omega)
  have lT1 := lim_len_pw (n := T + 1) (w := w + 9) (by omega)
  have sq := fix_Mul (a := T) (b := T + 1) (c := T) (d := T + 1) (w := w) (by omega) (by omega) (by omega) (by omega) (by omega) (by omega)
  have S2 : (T + 1) * (T + 1) / 2 ^ w ≤ 2 ^ w * 64 + 17 := by
    refine (Nat.div_le_iff_le_mul (by omega)).2 ?_
    have m := Nat.mul_le_mul (show T + 1 ≤ 2 ^ w * 8 + 1 by omega) (show T + 1 ≤ 2 ^ w * 8 + 1 by omega)
    have e : (2 ^ w * 8 + 1) * (2 ^ w * 8 + 1) = (2 ^ w * 64 + 16) * 2 ^ w + 1 := by generalize 2 ^ w = y; grind
    have e' : (2 ^ w * 64 + 17) * 2 ^ w = (2 ^ w * 64 + 16) * 2 ^ w + 2 ^ w := by generalize 2 ^ w = y; grind
    omega
  have S12 : T * T / 2 ^ w ≤ (T + 1) * (T + 1) / 2 ^ w := Nat.div_le_div_right (Nat.mul_le_mul (by omega) (by omega))
  have S3 : (T + 1) * (T + 1) / 2 ^ w ≤ T * T / 2 ^ w + 18 := by
    have h : (T + 1) * (T + 1) ≤ T * T + 17 * 2 ^ w := by
      have : (T + 1) * (T + 1) = T * T + 2 * T + 1 := by grind
      omega
    have h2 := Nat.div_le_div_right (c := 2 ^ w) h
    rw [Nat.add_mul_div_right _ _ (by omega)] at h2
    omega
  have es : ∀ z : Rat, z * (d : Rat) = (n : Rat) → Enc w (T * T / 2 ^ w) ((T + 1) * (T + 1) / 2 ^ w + 1) (z * z) := fun z hz => enc_mul (ez z hz) (ez z hz)
  generalize T * T / 2 ^ w = s1 at *
  generalize (T + 1) * (T + 1) / 2 ^ w = s2 at *
  have om := nat_Of many (by omega)
  have o1 := fix_One
  have l1 := lim_len1
  have lm : (lim many).length ≤ 2 := lim_len_lt (by omega)
  have ls1 := lim_len_pw (n := s1) (w := w + 8) (by omega)
  have ls2 := lim_len_pw (n := s2 + 1) (w := w + 8) (by omega)
  have ti := fix_Times (a := s1) (b := s2 + 1) (n := many) (d := 1) (by omega) (by omega) (by omega) (by omega) (by omega)
  have et : ∀ z : Rat, z * (d : Rat) = (n : Rat) → Enc w (s1 * many / 1) ((s2 + 1) * many / 1 + 1) (z * z * (many : Rat)) := by
    intro z hz
    have e := enc_times (n := many) (d := 1) (by omega) (es z hz)
    have e2 : z * z * ((many : Nat) : Rat) / ((1 : Nat) : Rat) = z * z * (many : Rat) := by
      rw [show ((1 : Nat) : Rat) = 1 from rfl]
      generalize z * z * (many : Rat) = q
      have := Rat.div_mul_cancel (a := q) (b := 1) (by decide)
      rw [Rat.mul_one] at this; exact this
    rw [e2] at e; exact e
  have q1 : s1 * many / 1 ≤ (s2 + 1) * many / 1 + 1 := Nat.le_succ_of_le (Nat.div_le_div_right (Nat.mul_le_mul_right _ (by omega)))
  have q2 : (s2 + 1) * many / 1 + 1 ≤ 129 * 2 ^ w := by
    rw [Nat.div_one]
    have := Nat.mul_le_mul_left (s2 + 1) hm2
    omega
  have q3 : (s2 + 1) * many / 1 + 1 ≤ s1 * many / 1 + 41 := by
    rw [Nat.div_one, Nat.div_one]
    have := Nat.mul_le_mul_right many (show s2 + 1 ≤ s1 + 19 by omega)
    rw [Nat.add_mul s1 19] at this
    omega
  generalize s1 * many / 1 = Q1 at *
  generalize (s2 + 1) * many / 1 + 1 = Q2 at *
  have lQ1 := lim_len_pw (n := Q1) (w := w + 9) (by omega)
  have lQ2 := lim_len_pw (n := Q2) (w := w + 9) (by omega)
  have i0 := tInv_0 (w := w) (k0 := 3) (t1 := T) (t2 := T + 1) (a1 := T) (a2 := T + 1) (by omega) (by omega) (by omega) (by omega)
  obtain ⟨F, hF⟩ : ∃ F : Nat, F = 5200 := ⟨_, rfl⟩
  obtain ⟨A, B, hr, hAB, hB⟩ := tRow_end (w := w) (Y1 := Q1) (Y2 := Q2) (M := many * 128) (k0 := 3) (by omega) q1 (by omega) (by omega) (by omega) 1023 F 0 3 T (T + 1) T (T + 1) i0 (by omega) (by omega) (by omega)
  obtain ⟨-, w1, w2⟩ := tRow_wide (W := 129) (D := 41) q2 q1 q3 F F 3 _ _ _ _ 9 1 9 1 A B (Nat.le_refl _) (by omega) hr (by omega) (by omega) (by omega) (by omega) (by omega) (by omega)
  obtain ⟨-, w3, w4⟩ := be_at
  rw [hF] at w1 w2
  generalize wRow 129 41 5200 3 9 1 9 1 = wr at *
  have w5 := Nat.mul_le_mul_right (2 ^ w) w3
  refine ⟨A, B, hAB, hB, by rw [Nat.add_mul, Nat.one_mul]; omega, by omega, fun s => ?_, fun z hz => ?_⟩
  rotate_left
  · have en := et z hz
    have z0 := enc_nonneg (ez z hz)
    have zz : z * z * (many : Rat) ≤ 64 * (many : Rat) := by
      have a := Rat.mul_le_mul_of_nonneg_left (z8 z hz) z0
      exact Rat.mul_le_mul_of_nonneg_right (le_64 a (z8 z hz)) (nat_nonneg many)
    exact tRow_enc (c := z) (k0 := 3) (by omega) en z0 (fun i hM _ => by
      have c := Ex.castle hM
      rw [Ex.castmul, show ((128 : Nat) : Rat) = 128 from rfl] at c
      exact two_64 zz c) F 0 _ _ _ _ A B hr (by show Enc w _ _ (z * 1); rw [Rat.mul_one]; exact ez z hz) (by show Enc w _ _ (z * (0 + 1)); rw [Rat.zero_add, Rat.mul_one]; exact ez z hz)
  have lens := fun (i k t1 t2 a1 a2 : Nat) (hi : i ≤ F) (h : tInv w 3 i k t1 t2 a1 a2) => (show (lim t1).length ≤ 1000 ∧ (lim t2).length ≤ 1000 ∧ (lim a1).length ≤ 1000 ∧ (lim a2).length ≤ 1000 from by
    obtain ⟨h1, h2, h3, h4, h5⟩ := h
    have a := lim_len_pw h4
    have b := lim_len_mono h2
    have up : (i + 2) * 2 ^ (w + 10000) ≤ 2 ^ (w + 10014) := by
      have e : 2 ^ (w + 10014) = 16384 * 2 ^ (w + 10000) := by rw [show w + 10014 = 14 + (w + 10000) by omega, Nat.pow_add 2 14]
      rw [e]; exact Nat.mul_le_mul_right _ (by omega)
    have c := lim_len_pw (n := a2) (w := w + 10014) (by omega)
    have d := lim_len_mono h3
    exact ⟨by omega, by omega, by omega, by omega⟩)
  have step := fun (i k t1 t2 a1 a2 : Nat) (h : tInv w 3 i k t1 t2 a1 a2) => tInv_step (Y1 := Q1) (Y2 := Q2) (by omega) q1 (by omega) h
  have frs := fr s
  have shl : (many : Int) * 2 ^ 7 = ((many * 128 : Nat) : Int) := by omega
  clear fr ls1 ls2 S2 S12 S3 Tle e8 e9 e10 hB hAB w1 w2 w3 w4 w5 q2 q3 ez es et z8 P dR
  refine Go.Ev.Fn.intro (fn := Tryz.f146) (body := (Tryz.f146).body.get!) (by kernel_rfl) (by kernel_rfl) (by kernel_rfl) (fun _ => rfl) (Nat.le_of_ble_eq_true (by kernel_rfl)) ?_; unfold Tryz.f146; simp only [Option.get!_some]
  repeat (first | (simp only [go_sem, Nat.reduceEqDiff, Nat.reduceAdd, Nat.reduceSub, Nat.reduceMul, Nat.reduceLeDiff, Nat.reduceLT, reduceIte, reduceCtorEq, Nat.succ_ne_zero, elemsC, Int.reduceToNat, Nat.reducePow]) | (simp (disch := (first | omega | (simp only [AL, List.length_map]; omega))) only [AR, AL, ifT, ifF, take_all, List.length_cons, List.length_nil, Int.reduceToNat, Int.reducePow, Nat.reducePow]) | (refine wk_intro (by kernel_rfl) ?_) | (refine vf_of (by first | exact frs | exact sq | exact om | exact o1 | exact ti) ?_))
  refine vp_loop_inv (fun s' => s'.tmp 1 = .sv (.int .u64 (many : Int)) ∧ s'.tmp 2 = .sv (.int .i64 (w : Int)) ∧ s'.tmp 6 = .ptr 6 0 0 ∧ s'.obj 6 0 = some [.sl 0 [], .sl 0 []] ∧ s'.tmp 7 = .ptr 7 0 0 ∧ s'.tmp 8 = .ptr 8 0 0 ∧ s'.obj 8 0 = some [natV (lim Q1), natV (lim Q2)] ∧ s'.tmp 9 = .ptr 9 0 0 ∧
      ∃ f i k t1 t2 a1 a2 : Nat, s'.tmp 10 = .sv (.int .u64 (k : Int)) ∧ f + i = F ∧ tRow w Q1 Q2 (many * 128) f k t1 t2 a1 a2 = some (A, B) ∧ s'.obj 7 0 = some [natV (lim t1), natV (lim t2)] ∧ s'.obj 9 0 = some [natV (lim a1), natV (lim a2)] ∧ tInv w 3 i k t1 t2 a1 a2)
    (fun s' => match s'.tmp 10 with | .sv (.int _ i) => 20000 - i.toNat | _ => 0) ⟨rfl, rfl, rfl, rfl, rfl, rfl, rfl, rfl, F, 0, 3, T, T + 1, T, T + 1, rfl, by omega, hr, rfl, rfl, i0⟩ ?_
  rintro s' ⟨i1, i2, i6, o6, i7, i8, o8, i9, f, i, k, t1, t2, a1, a2, i10, hfi, hgo, o7, o9, hok⟩
  obtain ⟨lt1, lt2, la1, la2⟩ := lens i k t1 t2 a1 a2 (by omega) hok
  have hk := hok.1
  have st := step i k t1 t2 a1 a2 hok
  have sm := fix_Small (a := t1) (b := t2) (by omega) (k := 2) (by omega)
  cases f with
  | zero => simp only [tRow] at hgo; cases hgo
  | succ f =>
    rw [tRow] at hgo
    by_cases hs : many * 128 ≤ k ∧ t2 < 4
    · rw [if_pos hs] at hgo
      simp only [Option.some.injEq, Prod.mk.injEq] at hgo
      obtain ⟨rfl, rfl⟩ := hgo
      rw [decide_eq_true (show t2 < 2 ^ 2 from hs.2)] at sm
      have wd := fix_Wider (a := a1) (b := a2) (n := 8) (by omega) (by omega) (by omega)
      have hs1 := hs.1
      clear step lens st hr
      repeat (first | (simp only [go_sem, Nat.reduceEqDiff, Nat.reduceAdd, Nat.reduceSub, Nat.reduceMul, Nat.reduceLeDiff, Nat.reduceLT, reduceIte, reduceCtorEq, Nat.succ_ne_zero, elemsC, Int.reduceToNat, Nat.reducePow, i1, i2, i6, o6, i7, i8, o8, i9, i10, o7, o9, shl, Bool.not_true]) | (simp (disch := (first | omega | (simp only [AL, List.length_map]; omega))) only [AR, AL, ifT, ifF, take_all, List.length_cons, List.length_nil, Int.reduceToNat, Int.reducePow, Nat.reducePow, i1, i2, i6, o6, i7, i8, o8, i9, i10, o7, o9, shl, Bool.not_true]) | (refine wk_intro (by kernel_rfl) ?_) | (refine vf_of (by first | exact sm | exact wd) ?_))
    · rw [if_neg hs] at hgo
      obtain ⟨lu1, lu2, lb1, lb2⟩ := lens (i + 1) (k + 2) _ _ _ _ (by omega) st
      have mu := fix_Mul (a := t1) (b := t2) (c := Q1) (d := Q2) (w := w) (by omega) (by omega) (by omega) (by omega) (by omega) (by omega)
      have qk := nat_Of k (by omega)
      have lq : (lim k).length ≤ 2 := lim_len_lt (by omega)
      have z1 := lim_len_mul (a := t1) (b := Q1)
      have z2 := lim_len_mul (a := t2) (b := Q2)
      have z3 := lim_len_mono (Nat.div_le_self (t1 * Q1) (2 ^ w))
      have z4 := lim_len_add (a := t2 * Q2 / 2 ^ w) (b := 1) (L := 5000) (Nat.le_trans (lim_len_mono (Nat.div_le_self (t2 * Q2) (2 ^ w))) (by omega)) (by omega)
      have tk := fix_Times (a := t1 * Q1 / 2 ^ w) (b := t2 * Q2 / 2 ^ w + 1) (n := 1) (d := k) (by omega) (by omega) (by omega) (by omega) (by omega)
      generalize t1 * Q1 / 2 ^ w * 1 / k = u1 at *
      generalize (t2 * Q2 / 2 ^ w + 1) * 1 / k + 1 = u2 at *
      generalize t1 * Q1 / 2 ^ w = v1 at *
      generalize t2 * Q2 / 2 ^ w + 1 = v2 at *
      have ad := fix_Add (a := a1) (b := a2) (c := u1) (d := u2) (by omega) (by omega) (by omega) (by omega)
      clear step lens hr
      by_cases hs1 : k < many * 128
      · clear sm
        repeat (first | (simp only [go_sem, Nat.reduceEqDiff, Nat.reduceAdd, Nat.reduceSub, Nat.reduceMul, Nat.reduceLeDiff, Nat.reduceLT, reduceIte, reduceCtorEq, Nat.succ_ne_zero, elemsC, Int.reduceToNat, Nat.reducePow, i1, i2, i6, o6, i7, i8, o8, i9, i10, o7, o9, shl]) | (simp (disch := (first | omega | (simp only [AL, List.length_map]; omega))) only [AR, AL, ifT, ifF, take_all, List.length_cons, List.length_nil, Int.reduceToNat, Int.reducePow, Nat.reducePow, i1, i2, i6, o6, i7, i8, o8, i9, i10, o7, o9, shl]) | (refine wk_intro (by kernel_rfl) ?_) | (refine vf_of (by first | exact mu | exact o1 | exact qk | exact tk | exact ad) ?_))
        exact ⟨⟨f, i + 1, k + 2, u1, u2, a1 + u1, a2 + u2, rfl, by omega, hgo, rfl, rfl, st⟩, by omega⟩
      · rw [decide_eq_false (show ¬ t2 < 2 ^ 2 from fun h => hs ⟨by omega, h⟩)] at sm
        repeat (first | (simp only [go_sem, Nat.reduceEqDiff, Nat.reduceAdd, Nat.reduceSub, Nat.reduceMul, Nat.reduceLeDiff, Nat.reduceLT, reduceIte, reduceCtorEq, Nat.succ_ne_zero, elemsC, Int.reduceToNat, Nat.reducePow, i1, i2, i6, o6, i7, i8, o8, i9, i10, o7, o9, shl, Bool.not_false]) | (simp (disch := (first | omega | (simp only [AL, List.length_map]; omega))) only [AR, AL, ifT, ifF, take_all, List.length_cons, List.length_nil, Int.reduceToNat, Int.reducePow, Nat.reducePow, i1, i2, i6, o6, i7, i8, o8, i9, i10, o7, o9, shl, Bool.not_false]) | (refine wk_intro (by kernel_rfl) ?_) | (refine vf_of (by first | exact sm | exact mu | exact o1 | exact qk | exact tk | exact ad) ?_))
        exact ⟨⟨f, i + 1, k + 2, u1, u2, a1 + u1, a2 + u2, rfl, by omega, hgo, rfl, rfl, st⟩, by omega⟩
theorem bell_shareE (hm : 1 ≤ many) (hm2 : many ≤ 2) (hw0 : 8 ≤ w) (hw : w < 233) :
    ∃ A B : Nat, ∃ r1 r2 : Rat, Go.Ev.Fn CX 95 [.int .i64 (many : Int), .int .i64 (w : Int)] (spanV A B) ∧ A ≤ B ∧ B ≤ 2 * 2 ^ w ∧ B ≤ A + 8 ∧ 0 ≤ r1 ∧ r1 ≤ r2 ∧ r1 * r1 ≤ (many : Rat) * (SQ * SQ) ∧ (many : Rat) * (SQ * SQ) ≤ r2 * r2 ∧ ∀ r, r1 ≤ r → r ≤ r2 → Enc w A B (1 / r) := by
  obtain ⟨m1, m2, fp, h1, h2, h3, h4, z1, z2⟩ := many_pi hw0 hw
  have ri := rat_Int (many : Int) (by omega)
  have zi := int_szR (n := (many : Int)) (by omega)
  have o := ball_Of (RatA_rv zi) (by omega)
  have c1 : (1 : Rat) ≤ ((many : Int) : Rat) := by
    have : ((1 : Nat) : Rat) ≤ (many : Rat) := Ex.castle hm
    exact this
  have c2 : ((many : Int) : Rat) ≤ 2 := by
    have : (many : Rat) ≤ ((2 : Nat) : Rat) := Ex.castle hm2
    exact this
  have W := p2_pos w
  have W8 : ((256 : Nat) : Rat) ≤ p2 w := Ex.castle (show 2 ^ 8 ≤ 2 ^ w from Nat.pow_le_pow_right (by omega) hw0)
  rw [show ((256 : Nat) : Rat) = 256 from rfl] at W8
  have g12 : m1 ≤ m2 := Rat.le_trans h1 h2
  have m3 : 3 ≤ m1 := by
    have q : (31 / 10 : Rat) ≤ SQ * SQ := by decide +kernel
    have q2 : (31 / 10 : Rat) * 10 = 31 := by decide +kernel
    refine Rat.not_lt.1 fun g => ?_
    have := Rat.mul_le_mul_of_nonneg_left W8 (show 0 ≤ m2 - m1 by grind)
    grind
  have bm := ball_Mul (L := 80) (szR_mono zi (by omega)) (szR_mono zi (by omega)) (szR_mono z1 (by omega)) (szR_mono z2 (by omega)) (by omega) (by omega)
  rw [(lohi1 (show (0 : Rat) ≤ ((many : Int) : Rat) by grind) g12).1, (lohi1 (show (0 : Rat) ≤ ((many : Int) : Rat) by grind) g12).2] at bm
  have k1 : (3 : Rat) ≤ ((many : Int) : Rat) * m1 := by
    have := Rat.mul_le_mul_of_nonneg_left m3 (show (0 : Rat) ≤ ((many : Int) : Rat) by grind)
    grind
  have k2 := Rat.mul_le_mul_of_nonneg_left g12 (show (0 : Rat) ≤ ((many : Int) : Rat) by grind)
  have k3 := Rat.mul_le_mul_of_nonneg_left h1 (show (0 : Rat) ≤ ((many : Int) : Rat) by grind)
  have k4 := Rat.mul_le_mul_of_nonneg_left h2 (show (0 : Rat) ≤ ((many : Int) : Rat) by grind)
  have k5 : (((many : Int) : Rat) * m2 - ((many : Int) : Rat) * m1) * p2 w ≤ 2 := by
    have e : (((many : Int) : Rat) * m2 - ((many : Int) : Rat) * m1) * p2 w = ((many : Int) : Rat) * ((m2 - m1) * p2 w) := by grind
    rw [e]
    have a := Rat.mul_le_mul_of_nonneg_left h3 (show (0 : Rat) ≤ ((many : Int) : Rat) by grind)
    grind
  obtain ⟨lo, lo', hi', hi, fr, r1, r2, r3, r4, r5, r6, r7, r8, r9, r10, y1, y2⟩ := root_Of (L := 82) (p := w) (A := ((many : Int) : Rat) * m1) (B := ((many : Int) : Rat) * m2) (by grind) (by grind) (szR_mono (szR_mul zi z1 (by omega)) (by omega)) (szR_mono (szR_mul zi z2 (by omega)) (by omega)) (by omega) (by omega) (by omega)
  have fb := fix_Ball (w := w) (szR_mono y1 (show _ ≤ 200 by omega)) (szR_mono y2 (show _ ≤ 200 by omega)) (by omega) (by omega)
  have wd := root_width4 W r2 r4 r5 r1 r6 r8 r10 (show (1 : Rat) ≤ ((many : Int) : Rat) * m1 by grind) k5 k2
  have l1 : 3 / 2 ≤ lo' := by
    refine Rat.not_lt.1 fun g => ?_
    have e : (3 / 2 : Rat) * (3 / 2) = 9 / 4 := by decide +kernel
    have e2 : (9 / 4 : Rat) < 3 := by decide +kernel
    have p : (0 : Rat) < 3 / 2 := by decide +kernel
    have a := mul_le (Rat.le_of_lt g) (Rat.le_of_lt g) (Rat.le_of_lt p) (Rat.le_trans r1 r2)
    rw [e] at a
    grind
  have lo1 : 1 ≤ lo := by
    refine Rat.not_lt.1 fun g => ?_
    have := Rat.mul_le_mul_of_nonneg_left W8 (show 0 ≤ lo' - lo by grind)
    have p : (3 / 2 : Rat) * 2 = 3 := by decide +kernel
    grind
  have lh : lo ≤ hi := by
    have a : lo * lo ≤ hi * hi := Rat.le_trans r3 (Rat.le_trans k2 r9)
    have h0 : 0 ≤ hi := Rat.le_trans r6 r7
    exact sq_mono r1 h0 a
  obtain ⟨i1, i2, i3, i4, i5⟩ := inv_ball (w := w) (g := 4) lo1 lh wd (by have := Nat.pow_le_pow_right (n := 2) (by omega) hw0; omega) (by omega)
  have P : 2 ^ 8 ≤ 2 ^ w := Nat.pow_le_pow_right (by omega) hw0
  have hi5 : hi ≤ 5 := by
    have q : SQ * SQ ≤ 32 / 10 := by decide +kernel
    have q2 : (32 / 10 : Rat) * 10 = 32 := by decide +kernel
    have m2le : m2 ≤ 4 := by
      refine Rat.not_lt.1 fun g => ?_
      have := Rat.mul_le_mul_of_nonneg_left W8 (show 0 ≤ m2 - m1 by grind)
      grind
    have q8 : ((many : Int) : Rat) * m2 ≤ 8 := by
      have a := Rat.mul_le_mul_of_nonneg_right c2 (show 0 ≤ m2 by grind)
      grind
    have h4' : hi' ≤ 4 := by
      refine Rat.not_lt.1 fun h => ?_
      have := Rat.mul_le_mul_of_nonneg_right (Rat.le_of_lt h) r6
      grind
    refine Rat.not_lt.1 fun h => ?_
    have := Rat.mul_le_mul_of_nonneg_left W8 (show 0 ≤ hi - hi' by grind)
    grind
  have t2 : unN hi w ≤ 5 * 2 ^ w := by
    have u := (unN_le (show 0 ≤ hi by grind) w).1
    have m5 := Rat.mul_le_mul_of_nonneg_right hi5 (Rat.le_of_lt W)
    have t : ((unN hi w : Nat) : Rat) ≤ ((5 * 2 ^ w : Nat) : Rat) := by
      rw [Ex.castmul]; exact Rat.le_trans u m5
    exact_mod_cast t
  have um := unN_mono (show 0 ≤ lo by grind) lh w
  have e9 : 2 ^ (w + 9) = 2 ^ w * 512 := Nat.pow_add _ _ _
  have lA := lim_len_pw (n := unN lo w) (w := w + 9) (by omega)
  have lB := lim_len_pw (n := unN hi w + 1) (w := w + 9) (by omega)
  have iv := fix_Inverse (a := unN lo w) (b := unN hi w + 1) (w := w) (by omega) (by omega) (by omega) (by omega) (by omega)
  refine ⟨2 ^ (2 * w) / (unN hi w + 1), 2 ^ (2 * w) / unN lo w + 1, lo, hi, ?_, i1, i2, i3, by grind, lh, Rat.le_trans r3 k3, Rat.le_trans k4 r9, fun r a b => (enc_inv (w := w) (show 0 < unN lo w by omega) (ball_enc r1 a b w)).1⟩
  clear k1 k2 k3 k4 k5 r1 r2 r3 r4 r5 r6 r7 r8 r9 r10 lo1 lh h1 h2 h3 h4 g12 c1 c2 m3 wd l1 i1 i2 i3 i4 i5 hi5 t2 um
  generalize 2 ^ (2 * w) / (unN hi w + 1) = A at *
  generalize 2 ^ (2 * w) / unN lo w + 1 = B at *
  generalize ((many : Int) : Rat) * m1 = q1 at *
  generalize ((many : Int) : Rat) * m2 = q2 at *
  generalize unN hi w + 1 = u2 at *
  generalize unN lo w = u1 at *
  refine Go.Ev.Fn.intro (fn := Tryz.f95) (body := (Tryz.f95).body.get!) (by kernel_rfl) (by kernel_rfl) (by kernel_rfl) (fun _ => rfl) (Nat.le_of_ble_eq_true (by kernel_rfl)) ?_; unfold Tryz.f95; simp only [Option.get!_some]
  repeat (first | (simp only [go_sem, Nat.reduceEqDiff, Nat.reduceAdd, Nat.reduceSub, Nat.reduceMul, Nat.reduceLeDiff, Nat.reduceLT, reduceIte, reduceCtorEq, Nat.succ_ne_zero, elemsC, Int.reduceToNat, Nat.reducePow]) | (simp (disch := (first | omega | (simp only [AL, List.length_map]; omega))) only [AR, AL, ifT, ifF, take_all, List.length_cons, List.length_nil, Int.reduceToNat, Int.reducePow, Nat.reducePow]) | (refine wk_intro (by kernel_rfl) ?_) | (refine vf_of (by first | exact ri | exact o | exact fp | exact bm | exact fr | exact fb | exact iv) ?_))
end
end Go.Proofs.YtemnjalaincijaaGreat
namespace Go.Proofs.YtemnjalaincijaaGreat
open Go.Ev
def arV (z y q r : Rat) (L : Nat) : Rat := z * sk y 3 L * evX (-q) L * (1 / r)
section
variable {z : Rat} {w P : Nat} {pI : Int}
theorem bell_areaE {many S1 S2 : Nat} (hz : szR z 3) (h0 : 0 ≤ z) (h8 : z ≤ 8) (hm : 1 ≤ many) (hm2 : many ≤ 2) (hw0 : 8 ≤ w) (hw : w ≤ 400) (hS : S1 ≤ S2) (hS2 : S2 ≤ 2 * 2 ^ w) (hS3 : S2 ≤ S1 + 8) :
    ∃ A B : Nat, A ≤ B ∧ B ≤ 2 ^ (w + 120) ∧ B ≤ A + 2 ^ 120 ∧ (∀ r, Enc w S1 S2 (1 / r) → ∃ s0, ∀ L, s0 ≤ L → Enc w A B (arV z (z * z * (many : Rat)) (if many = 1 then z * z / 2 else z * z) r L)) ∧ ∀ y : Rat, y = z ∨ y = -z → Go.Ev.Fn CX 94 [rv y, .int .u64 (many : Int), spanV S1 S2, .int .i64 (w : Int)] (spanV A B) := by
  have zp := Nat.le_trans hz.1 (show 3 ≤ 100 by omega)
  have zd := Nat.le_trans hz.2 (show 3 ≤ 100 by omega)
  obtain ⟨R1, R2, r1, r2, r3, r4, fr, er⟩ := bell_rowE (n := z.num.natAbs) (d := z.den) (many := many) (w := w) z.den_pos (num_le8 h0 h8) hm hm2 zp zd hw0 (by omega)
  obtain ⟨g1, -, -⟩ := be_at
  generalize beR = bR at *
  obtain ⟨q0, q64⟩ := sq_bd h0 h8
  obtain ⟨sq, hsq, sqz, sq1, sq2⟩ : ∃ sq : Rat, sq = (if many = 1 then z * z / 2 else z * z) ∧ szR sq 7 ∧ 0 ≤ sq ∧ sq ≤ 64 := by
    by_cases e : many = 1
    · refine ⟨_, rfl, ?_, ?_⟩ <;> rw [if_pos e]
      · exact szR_mono (szR_div (szR_mul hz hz (by omega)) two_len (by omega) (by omega)) (by omega)
      · have hh : z * z / 2 * 2 = z * z := Rat.div_mul_cancel (by decide)
        generalize z * z / 2 = t at *
        clear r1 r2 fr
        constructor <;> grind
    · refine ⟨_, rfl, ?_, ?_⟩ <;> rw [if_neg e]
      · exact szR_mono (szR_mul hz hz (by omega)) (by omega)
      · exact ⟨q0, q64⟩
  have zn := szR_neg sqz
  obtain ⟨F1, F2, f1, f3, f2, ff, s2, ef⟩ := bell_fall (z := -sq) (w := w) (RatA_rv zn) (by omega) (by omega) (neg64 sq1 sq2).1 (neg64 sq1 sq2).2 (den_le zn (by omega)) (by omega)
  have ng := rat_Neg (RatA_rv sqz) (by omega) (by omega)
  have i2 := rat_Int 2 (by omega)
  have dv := rat_Div (RatA_rv (szR_mul hz hz (by omega))) (RatA_rv (int_szR (n := 2) (by omega))) (by omega) (by omega) (by omega)
  rw [show ((2 : Int) : Rat) = 2 from rfl] at i2 dv
  rw [decide_eq_true (show ¬ (2 : Rat) = 0 by decide)] at dv
  have P2 : 2 ^ 8 ≤ 2 ^ w := Nat.pow_le_pow_right (by omega) hw0
  have e1 : 2 ^ (w + 2) = 2 ^ w * 4 := Nat.pow_add _ _ _
  have lR2 := lim_len_pw r2
  have lR1 := lim_len_mono r1
  have lF2 := lim_len_pw (n := F2) (w := w + 2) (by omega)
  have lF1 := lim_len_mono f1
  have lS2 := lim_len_pw (n := S2) (w := w + 2) (by omega)
  have lS1 := lim_len_mono hS
  have m1 := fix_Mul (a := R1) (b := R2) (c := F1) (d := F2) (w := w) (by omega) (by omega) (by omega) (by omega) (by omega) (by omega)
  obtain ⟨u1, u2, u3⟩ := mulS (w := w) (β := 2) (δ := 2) r1 f1 r3 (show F2 ≤ 2 * 2 ^ w by omega) r4 f3
  obtain ⟨y1, y2, y3⟩ := mulS (w := w) (β := 2) (δ := 8) u1 hS u2 hS2 u3 hS3
  have hx : z * (z.den : Rat) = ((z.num.natAbs : Nat) : Rat) := by rw [Ex.denR z, ← castZn, num_abs h0]
  obtain ⟨s1, es⟩ := er z hx
  have en : ∀ r, Enc w S1 S2 (1 / r) → ∃ s0, ∀ L, s0 ≤ L → Enc w (R1 * F1 / 2 ^ w * S1 / 2 ^ w) ((R2 * F2 / 2 ^ w + 1) * S2 / 2 ^ w + 1) (arV z (z * z * (many : Rat)) (if many = 1 then z * z / 2 else z * z) r L) := by
    intro r hr
    refine ⟨s1 + s2, fun L hL => ?_⟩
    have e := enc_mul (enc_mul (es L (by omega)) (ef L (by omega))) hr
    rw [hsq] at e
    exact e
  have tw : ∀ k q Z, q ≤ 2 ^ k → Z ≤ q * 2 ^ w → Z ≤ 2 ^ (w + k) := by
    intro k q Z hz hZ
    rw [Nat.add_comm w, Nat.pow_add]
    exact Nat.le_trans hZ (Nat.mul_le_mul_right _ hz)
  have uB := tw 118 _ _ (by omega) u2
  have sB := tw 120 _ _ (by omega) y2
  have gap : (R2 * F2 / 2 ^ w + 1) * S2 / 2 ^ w + 1 ≤ R1 * F1 / 2 ^ w * S1 / 2 ^ w + 2 ^ 120 := by omega
  clear es ef er tw g1 u2 u3 y2 y3 r3 r4 f3
  generalize R1 * F1 / 2 ^ w = U1 at *
  generalize R2 * F2 / 2 ^ w + 1 = U2 at *
  have lU2 := lim_len_p2k uB
  have lU1 := lim_len_mono u1
  have m2 := fix_Mul (a := U1) (b := U2) (c := S1) (d := S2) (w := w) (by omega) (by omega) (by omega) (by omega) (by omega) (by omega)
  refine ⟨U1 * S1 / 2 ^ w, U2 * S2 / 2 ^ w + 1, y1, sB, gap, en, fun y hy => ?_⟩
  clear en sB gap uB
  obtain ⟨s, hs⟩ : ∃ s : Bool, rv y = ratV s (lim z.num.natAbs) (lim z.den) := by
    rcases hy with rfl | rfl
    · exact ⟨_, rfl⟩
    · exact rv_neg z
  have zy : szR y 3 := by
    rcases hy with rfl | rfl
    · exact hz
    · exact szR_neg hz
  have mu := rat_Mul (RatA_rv zy) (RatA_rv zy) (by omega) (by omega) (by omega)
  have yy := sq_same hy
  rw [yy, hs] at mu
  rw [hs]
  have frs := fr s
  generalize U1 * S1 / 2 ^ w = V1 at *
  generalize U2 * S2 / 2 ^ w + 1 = V2 at *
  clear fr yy zy hy hs e1 P2 u1 r1 r2 y1 hx
  by_cases e : many = 1
  · subst e
    rw [if_pos rfl] at hsq
    rw [← hsq] at dv
    clear hsq sqz sq1 sq2 q0 q64
    generalize z * z = zz at *
    generalize -sq = nsq at *
    refine Go.Ev.Fn.intro (fn := Tryz.f94) (body := (Tryz.f94).body.get!) (by kernel_rfl) (by kernel_rfl) (by kernel_rfl) (fun _ => rfl) (Nat.le_of_ble_eq_true (by kernel_rfl)) ?_; unfold Tryz.f94; simp only [Option.get!_some]
    repeat (first | (simp only [go_sem, Nat.reduceEqDiff, Nat.reduceAdd, Nat.reduceSub, Nat.reduceMul, Nat.reduceLeDiff, Nat.reduceLT, reduceIte, reduceCtorEq, Nat.succ_ne_zero, elemsC, Int.reduceToNat, Nat.reducePow]) | (simp (disch := (first | omega | (simp only [AL, List.length_map]; omega))) only [AR, AL, ifT, ifF, take_all, List.length_cons, List.length_nil, Int.reduceToNat, Int.reducePow, Nat.reducePow]) | (refine wk_intro (by kernel_rfl) ?_) | (refine vp_draw (id := 3) (l := []) (by kernel_rfl) ?_) | (refine vp_draw (id := 4) (l := []) (by kernel_rfl) ?_) | (refine vf_of (by first | exact mu | exact i2 | exact dv | exact frs | exact ng | exact ff | exact m1 | exact m2) ?_))
  · have e2 : many = 2 := by omega
    subst e2
    rw [if_neg (by omega)] at hsq
    rw [← hsq] at mu
    clear hsq sqz sq1 sq2 q0 q64 dv
    generalize -sq = nsq at *
    refine Go.Ev.Fn.intro (fn := Tryz.f94) (body := (Tryz.f94).body.get!) (by kernel_rfl) (by kernel_rfl) (by kernel_rfl) (fun _ => rfl) (Nat.le_of_ble_eq_true (by kernel_rfl)) ?_; unfold Tryz.f94; simp only [Option.get!_some]
    repeat (first | (simp only [go_sem, Nat.reduceEqDiff, Nat.reduceAdd, Nat.reduceSub, Nat.reduceMul, Nat.reduceLeDiff, Nat.reduceLT, reduceIte, reduceCtorEq, Nat.succ_ne_zero, elemsC, Int.reduceToNat, Nat.reducePow]) | (simp (disch := (first | omega | (simp only [AL, List.length_map]; omega))) only [AR, AL, ifT, ifF, take_all, List.length_cons, List.length_nil, Int.reduceToNat, Int.reducePow, Nat.reducePow]) | (refine wk_intro (by kernel_rfl) ?_) | (refine vp_draw (id := 3) (l := []) (by kernel_rfl) ?_) | (refine vp_draw (id := 4) (l := []) (by kernel_rfl) ?_) | (refine vf_of (by first | exact mu | exact frs | exact ng | exact ff | exact m1 | exact m2) ?_))
theorem bell_PhiE (hz : szR z 3) (h0 : 0 < z) (h8 : z ≤ 8) (hpI : (pI ≤ 0 ∧ P = 0) ∨ pI = (P : Int)) (hP : P ≤ 104) :
    ∃ l h r1 r2 : Rat, l ≤ h ∧ szR l 400 ∧ szR h 400 ∧ (h - l) * p2 P ≤ 1 ∧ 0 ≤ r1 ∧ r1 ≤ r2 ∧ r1 * r1 ≤ 2 * (SQ * SQ) ∧ 2 * (SQ * SQ) ≤ r2 * r2 ∧ (∀ r, r1 ≤ r → r ≤ r2 → ∃ s0, ∀ L, s0 ≤ L → l ≤ arV z (z * z) (z * z / 2) r L ∧ arV z (z * z) (z * z / 2) r L ≤ h) ∧ (∀ v, RatA v z 3 → Go.Ev.Fn CX 40 [v, .int .i64 pI] (.tup [ballR (1 / 2 + l) (1 / 2 + h), .bool true])) ∧ (∀ v, RatA v (-z) 3 → Go.Ev.Fn CX 40 [v, .int .i64 pI] (.tup [ballR (1 / 2 + -h) (1 / 2 + -l), .bool true])) := by
  have g1 : -8 ≤ z := by grind
  have g2 : -8 ≤ -z := by grind
  have g3 : -z ≤ 8 := by grind
  have g4 : ¬ z = 0 := by grind
  have g5 : ¬ -z = 0 := by grind
  obtain ⟨S1, S2, r1, r2, fs, s1, s2, s3, a0, a1, a2', a3, sE⟩ := bell_shareE (many := 2) (w := P + 128) (by omega) (by omega) (by omega) (by omega)
  obtain ⟨A, B, a1', a2, gap, ae, fa⟩ := bell_areaE (many := 2 - 1) (w := P + 128) hz (Rat.le_of_lt h0) h8 (by omega) (by omega) (by omega) (by omega) s1 s2 s3
  obtain ⟨K, hK⟩ : ∃ K : Nat, K = 10040 := ⟨_, rfl⟩
  have e40 : 2 ^ (P + 128 + 120) < 2 ^ (P + 128 + K) := Nat.pow_lt_pow_right (by omega) (by omega)
  rw [hK] at e40
  obtain ⟨l, h, t1, t2, t3, t4, t5, t6, ft⟩ := told_span (w := P + 128) (p := P + 2) a1' (Nat.lt_of_le_of_lt a2 e40) (by omega) (by omega)
  have thin := told_thin (w := P + 128) (p := P) (by omega) (show B ≤ A + 2 ^ (P + 128 - (P + 2)) from Nat.le_trans gap (Nat.add_le_add_left (Nat.pow_le_pow_right (by omega) (by omega)) _))
  rw [← t5, ← t6] at thin
  have ve : ∀ r, r1 ≤ r → r ≤ r2 → ∃ s0, ∀ L, s0 ≤ L → l ≤ arV z (z * z) (z * z / 2) r L ∧ arV z (z * z) (z * z / 2) r L ≤ h := by
    intro r q1 q2
    obtain ⟨s0, hs⟩ := ae r (sE r q1 q2)
    refine ⟨s0, fun L hL => ?_⟩
    have e := told_in (w := P + 128) (q := P + 2) (by omega) (hs L hL)
    rw [← t5, ← t6, if_pos rfl, show z * z * ((2 - 1 : Nat) : Rat) = z * z by rw [show ((2 - 1 : Nat) : Rat) = 1 from rfl, Rat.mul_one]] at e
    exact e
  rw [show ((2 : Nat) : Rat) = 2 from rfl] at a2' a3
  clear ae sE gap e40 hK a2
  have hh := bell_held hpI (show P ≤ 200 by omega)
  have i1 := rat_Int 1 (by omega)
  have i2 := rat_Int 2 (by omega)
  have dv := rat_Div (RatA_rv (int_szR (n := 1) (by omega))) (RatA_rv (int_szR (n := 2) (by omega))) (by omega) (by omega) (by omega)
  rw [half_div, decide_eq_true (show ¬ ((2 : Int) : Rat) = 0 by decide)] at dv
  have oh := ball_Of (RatA_rv hlf_len) (by omega)
  have ng := ball_Neg t3 t4 (by omega) (by omega)
  have ad1 := ball_Add hlf_len hlf_len t3 t4 (by omega) (by omega) (by omega)
  have ad2 := ball_Add hlf_len hlf_len (szR_neg t4) (szR_neg t3) (by omega) (by omega) (by omega)
  obtain ⟨n1, n2⟩ := num_neg_iff h0
  rw [show ((P + 128 : Nat) : Int) = (P : Int) + 128 from rfl] at fs fa ft
  rw [show ((P + 2 : Nat) : Int) = (P : Int) + 2 from rfl] at ft
  refine ⟨l, h, r1, r2, t1, t3, t4, thin, a0, a1, a2', a3, ve, fun v hv => ?_, fun v hv => ?_⟩
  · have fr := bell_nigh hv (by omega) (by omega) g1 h8
    have nm := rat_Norm hv (by omega)
    have zr := rat_Zero (RatA_rv hz) (by omega) (by omega)
    rw [decide_eq_false g4] at zr
    have fa1 := fa z (.inl rfl)
    have erz : rv z = ratV false (lim z.num.natAbs) (lim z.den) := by show ratV (decide (z.num < 0)) _ _ = _; rw [n1]
    rw [erz] at nm zr fa1
    clear fa ad2 ng n2 hz h0 h8 t1 t2 t3 t4 t5 t6 thin ve a0 a1 a2' a3 a1' s1 s2 s3
    obtain ⟨s, n, d, rfl, -⟩ := hv
    generalize 1 / 2 + l = q1 at *
    generalize 1 / 2 + h = q2 at *
    generalize (1 / 2 : Rat) = hf at *
    refine Go.Ev.Fn.intro (fn := Tryz.f40) (body := (Tryz.f40).body.get!) (by kernel_rfl) (by kernel_rfl) (by kernel_rfl) (fun _ => rfl) (Nat.le_of_ble_eq_true (by kernel_rfl)) ?_; unfold Tryz.f40; simp only [Option.get!_some]
    repeat (first | (simp only [go_sem, Nat.reduceEqDiff, Nat.reduceAdd, Nat.reduceSub, Nat.reduceMul, Nat.reduceLeDiff, Nat.reduceLT, reduceIte, reduceCtorEq, Nat.succ_ne_zero, elemsC, Int.reduceToNat, Nat.reducePow]) | (simp (disch := (first | omega | (simp only [AL, List.length_map]; omega))) only [AR, AL, ifT, ifF, take_all, List.length_cons, List.length_nil, Int.reduceToNat, Int.reducePow, Nat.reducePow]) | (refine wk_intro (by kernel_rfl) ?_) | (refine vp_draw (id := 8) (l := []) (by kernel_rfl) ?_) | (refine vp_draw (id := 11) (l := []) (by kernel_rfl) ?_) | (refine vf_of (by first | exact fr | exact nm | exact i1 | exact i2 | exact dv | exact zr | exact hh | exact fs | exact fa1 | exact ft | exact oh | exact ad1) ?_))
  · have zn := szR_neg hz
    have fr := bell_nigh hv (by omega) (by omega) g2 g3
    have nm := rat_Norm hv (by omega)
    have zr := rat_Zero (RatA_rv zn) (by omega) (by omega)
    rw [decide_eq_false g5] at zr
    have fa1 := fa (-z) (.inr rfl)
    have erz : rv (-z) = ratV true (lim (-z).num.natAbs) (lim (-z).den) := by show ratV (decide ((-z).num < 0)) _ _ = _; rw [n2]
    rw [erz] at nm zr fa1
    clear fa ad1 n1 hz h0 h8 t1 t2 t3 t4 t5 t6 thin ve a0 a1 a2' a3 a1' s1 s2 s3 zn
    obtain ⟨s, n, d, rfl, -⟩ := hv
    generalize 1 / 2 + -h = q1 at *
    generalize 1 / 2 + -l = q2 at *
    generalize (1 / 2 : Rat) = hf at *
    generalize -h = mh at *
    generalize -l = ml at *
    refine Go.Ev.Fn.intro (fn := Tryz.f40) (body := (Tryz.f40).body.get!) (by kernel_rfl) (by kernel_rfl) (by kernel_rfl) (fun _ => rfl) (Nat.le_of_ble_eq_true (by kernel_rfl)) ?_; unfold Tryz.f40; simp only [Option.get!_some]
    repeat (first | (simp only [go_sem, Nat.reduceEqDiff, Nat.reduceAdd, Nat.reduceSub, Nat.reduceMul, Nat.reduceLeDiff, Nat.reduceLT, reduceIte, reduceCtorEq, Nat.succ_ne_zero, elemsC, Int.reduceToNat, Nat.reducePow]) | (simp (disch := (first | omega | (simp only [AL, List.length_map]; omega))) only [AR, AL, ifT, ifF, take_all, List.length_cons, List.length_nil, Int.reduceToNat, Int.reducePow, Nat.reducePow]) | (refine wk_intro (by kernel_rfl) ?_) | (refine vp_draw (id := 8) (l := []) (by kernel_rfl) ?_) | (refine vp_draw (id := 11) (l := []) (by kernel_rfl) ?_) | (refine vf_of (by first | exact fr | exact nm | exact i1 | exact i2 | exact dv | exact zr | exact hh | exact fs | exact fa1 | exact ft | exact ng | exact oh | exact ad2) ?_))
end
end Go.Proofs.YtemnjalaincijaaGreat
namespace Go.Proofs.YtemnjalaincijaaGreat
open Go.Ev
theorem add_le2 {a b c d : Rat} (h : a ≤ b) (g : c ≤ d) : a + c ≤ b + d := by grind
theorem half_nn {s : Rat} (h0 : 0 ≤ s) (h : s ≤ 128) : -(s * mkRat 1 2) ≤ 0 ∧ -64 ≤ -(s * mkRat 1 2) := by
  rw [half_mk]
  have hh : (1 / 2 : Rat) * 2 = 1 := by decide +kernel
  have a := Rat.mul_nonneg h0 (show (0 : Rat) ≤ 1 / 2 by decide +kernel)
  have b := Rat.mul_le_mul_of_nonneg_right h (show (0 : Rat) ≤ 1 / 2 by decide +kernel)
  constructor <;> grind
theorem encS {w A B : Nat} {V : Rat} (neg : Bool) (h : Enc w A B V) : EncZ w (sLo neg A B) (sHi neg A B) (if neg then -V else V) := by
  obtain ⟨h1, h2⟩ := h
  unfold EncZ sLo sHi
  cases neg with
  | false =>
    rw [if_neg (by decide), if_neg (by decide), if_neg (by decide), castZn, castZn]
    exact ⟨h1, h2⟩
  | true =>
    rw [if_pos rfl, if_pos rfl, if_pos rfl, Rat.intCast_neg, Rat.intCast_neg, castZn, castZn]
    constructor <;> grind
theorem mkZ_in {w : Nat} {A B : Int} {V : Rat} (h : EncZ w A B V) : mkRat A (2 ^ w) ≤ V ∧ V ≤ mkRat B (2 ^ w) := by
  have P := p2_pos w
  exact ⟨le_by P (by rw [mk_mulP _ (Nat.pow_pos (by omega))]; exact h.1), le_by P (by rw [mk_mulP _ (Nat.pow_pos (by omega))]; exact h.2)⟩
section
variable {v vs : SV} {z s : Rat} {w p C1 C2 : Nat} {neg : Bool}
set_option maxHeartbeats 1000000 in
theorem ref10_area {L M : Nat} (hv : RatA v (if neg then -z else z) L) (hL1 : 1 ≤ L) (hL : L ≤ 20) (hs : RatA vs s M) (hM1 : 1 ≤ M) (hM : M ≤ 40) (h0 : 0 ≤ z) (h8 : z ≤ 8) (s0 : 0 ≤ s) (s128 : s ≤ 128) (hC : C1 ≤ C2) (lC : (lim C2).length ≤ 100) (hw0 : 50 ≤ w) (hw : w ≤ 400) :
    ∃ A B : Nat, Go.Ev.Fn CX 102 [v, vs, ivN C1 C2, .int .i64 (w : Int)] (ivS neg A B) ∧ A ≤ B ∧ (lim B).length ≤ 500 ∧ ∀ c, Enc w C1 C2 c → ∃ t, ∀ L, t ≤ L → Enc w A B (z * evX (-(s * mkRat 1 2)) L * c * sk s 3 L) := by
  have zs := szR_of hs hM1
  have hf := ref10_half hs hM1 (by omega)
  have zh := szR_mul zs half_len hM1
  have ng := ref2_Neg (RatA_rv zh) (by omega) (by omega)
  obtain ⟨n1, n2⟩ := half_nn s0 s128
  obtain ⟨E1, E2, e1, e2, fe, t1, ee⟩ := ref6_Iv (w := w) (RatA_rv (szR_neg zh)) (by omega) (by omega) n1 n2 (by omega)
  have lE := lim_len_p2k e2
  clear e2
  have nz := ref4_NumS (w := w) hv hL1 (by omega) (by omega) h0
  have ez := num_enc h0 w
  have z12 := un_up (q := z) w
  have zT : upN z w ≤ 2 ^ w * 8 := upN_le (n := 8) (m := 1) h0 (by
    rw [show ((8 : Nat) : Rat) = 8 from rfl, show ((1 : Nat) : Rat) = 1 from rfl]; grind) (by omega) (by omega)
  have lz := lim_len_p2k (n := upN z w) (w := w + 3) (by rw [Nat.pow_add]; exact zT)
  obtain ⟨R1, R2, fr, r1, r2, t2, er⟩ := ref10_row (w := w) hs hM1 (by omega) s0 s128 (by omega) (by omega)
  have P : 0 < 2 ^ w := Nat.pow_pos (by omega)
  have pr1 := ref4_ProdS (neg := neg) (a := unN z w) (b := upN z w) (c := E1) (d := E2) (w := w) z12 e1 (by omega) (by omega) (by omega) (by omega)
  have a12 : unN z w * E1 / 2 ^ w ≤ cdv (upN z w * E2) (2 ^ w) := div_le_cdv P (Nat.mul_le_mul z12 e1)
  have la := Nat.le_trans (lim_len_mono (cdv_self (upN z w * E2) P)) lim_len_mul
  have pr2 := ref4_ProdS (neg := neg) (a := unN z w * E1 / 2 ^ w) (b := cdv (upN z w * E2) (2 ^ w)) (c := C1) (d := C2) (w := w) a12 hC (by omega) (by omega) (by omega) (by omega)
  have b12 : unN z w * E1 / 2 ^ w * C1 / 2 ^ w ≤ cdv (cdv (upN z w * E2) (2 ^ w) * C2) (2 ^ w) := div_le_cdv P (Nat.mul_le_mul a12 hC)
  have lb := Nat.le_trans (lim_len_mono (cdv_self (cdv (upN z w * E2) (2 ^ w) * C2) P)) lim_len_mul
  have en : ∀ c, Enc w C1 C2 c → ∀ L, t1 + t2 ≤ L → Enc w (unN z w * E1 / 2 ^ w * C1 / 2 ^ w * R1 / 2 ^ w) (cdv (cdv (cdv (upN z w * E2) (2 ^ w) * C2) (2 ^ w) * R2) (2 ^ w)) (z * evX (-(s * mkRat 1 2)) L * c * sk s 3 L) := fun c hc L hL =>
    enc_prodN (enc_prodN (enc_prodN ez (ee L (by omega))) hc) (er L (by omega))
  generalize unN z w * E1 / 2 ^ w = A1 at *
  generalize cdv (upN z w * E2) (2 ^ w) = A2 at *
  generalize A1 * C1 / 2 ^ w = B1 at *
  generalize cdv (A2 * C2) (2 ^ w) = B2 at *
  have pr3 := ref4_ProdS (neg := neg) (a := B1) (b := B2) (c := R1) (d := R2) (w := w) b12 r1 (by omega) (by omega) (by omega) (by omega)
  have c12 : B1 * R1 / 2 ^ w ≤ cdv (B2 * R2) (2 ^ w) := div_le_cdv P (Nat.mul_le_mul b12 r1)
  have lc := Nat.le_trans (lim_len_mono (cdv_self (B2 * R2) P)) lim_len_mul
  refine ⟨_, _, ?_, c12, by omega, fun c hc => ⟨t1 + t2, en c hc⟩⟩
  clear en ee er ez n1 n2 c12 b12 a12 zT zs zh z12
  obtain ⟨s1, n1, d1, rfl, -⟩ := hv
  obtain ⟨s2, n2, d2, rfl, -⟩ := hs
  generalize B1 * R1 / 2 ^ w = O1 at *
  generalize cdv (B2 * R2) (2 ^ w) = O2 at *
  generalize -(s * mkRat 1 2) = q2 at *
  generalize s * mkRat 1 2 = q1 at *
  refine Go.Ev.Fn.intro (fn := Tryz.f102) (body := (Tryz.f102).body.get!) (by kernel_rfl) (by kernel_rfl) (by kernel_rfl) (fun _ => rfl) (Nat.le_of_ble_eq_true (by kernel_rfl)) ?_; unfold Tryz.f102; simp only [Option.get!_some]
  repeat (first | (simp only [go_sem, Nat.reduceEqDiff, Nat.reduceAdd, Nat.reduceSub, Nat.reduceMul, Nat.reduceLeDiff, Nat.reduceLT, reduceIte, reduceCtorEq, Nat.succ_ne_zero, elemsC, Int.reduceToNat, Nat.reducePow]) | (simp (disch := (first | omega | (simp only [AL, List.length_map]; omega))) only [AR, AL, ifT, ifF, take_all, List.length_cons, List.length_nil, Int.reduceToNat, Int.reducePow, Nat.reducePow]) | (refine wk_intro (by kernel_rfl) ?_) | (refine vp_draw (id := 2) (l := []) (by kernel_rfl) ?_) | (refine vp_draw (id := 3) (l := []) (by kernel_rfl) ?_) | (refine vf_of (by first | exact hf | exact ng | exact fe | exact nz | exact pr1 | exact pr2 | exact fr | exact pr3) ?_))
theorem neg_sq (neg : Bool) (z : Rat) : (if neg then -z else z) * (if neg then -z else z) = z * z := by
  cases neg
  · rfl
  · show -z * -z = z * z; grind
theorem ref10_share (hv : RatA v (if neg then -z else z) 3) (h0 : 0 ≤ z) (h8 : z ≤ 8) (hw0 : 20 ≤ w) (hw : w ≤ 230) :
    ∃ A B : Nat, ∃ r1 r2 : Rat, Go.Ev.Fn CX 100 [v, .int .i64 (w : Int)] (ivS neg A B) ∧ A ≤ B ∧ (lim B).length ≤ 500 ∧ 0 ≤ r1 ∧ 0 ≤ r2 ∧ r1 * r1 ≤ 2 * (SQ * SQ) ∧ 2 * (SQ * SQ) ≤ r2 * r2 ∧ ∀ r, r1 ≤ r → r ≤ r2 → ∃ t, ∀ L, t ≤ L → Enc w A B (arV z (z * z) (z * z / 2) r L) := by
  obtain ⟨W, hW, hw1, hw2, hwi⟩ : ∃ W : Nat, (∀ Q : Nat → Prop, Q W → Q (w + 130)) ∧ 150 ≤ W ∧ W ≤ 360 ∧ (w : Int) + 130 = (W : Int) := ⟨w + 130, fun Q h => h, by omega, by omega, rfl⟩
  obtain ⟨q0, q64⟩ := sq_bd h0 h8
  have mu := ref2_Mul hv hv (by omega) (by omega) (by omega)
  have zq := szR_mul (szR_of hv (by omega)) (szR_of hv (by omega)) (by omega)
  rw [neg_sq] at mu zq
  obtain ⟨C1, C2, r1, r2, fr, c12, lC, a0, a1, a2, a3, ec⟩ := ref10_root (n := 2) (w := W) (.inr rfl) (by omega) (by omega)
  obtain ⟨A, B, fa, ab, lB, ea⟩ := ref10_area (w := W) hv (by omega) (by omega) (RatA_rv zq) (by omega) (by omega) h0 h8 q0 (show z * z ≤ 128 by clear ec; grind) c12 (by omega) (by omega) (by omega)
  have bk := ref4_BackS (neg := neg) (a := A) (b := B) (n := 130) ab (by omega) (by omega) (by omega)
  have o12 := div_le_cdv (d := 2 ^ 130) (Nat.two_pow_pos 130) ab
  have lO := lim_len_mono (cdv_self B (Nat.two_pow_pos 130))
  rw [show ((2 : Nat) : Rat) = 2 from rfl] at a2 a3
  refine ⟨_, _, r1, r2, ?_, o12, by omega, a0, a1, a2, a3, fun r g1 g2 => ?_⟩
  rotate_left
  · obtain ⟨t, ht⟩ := ea _ (ec r g1 g2)
    refine ⟨t, fun L hL => ?_⟩
    have e := enc_backN (w := w) (n := 130) (hW (fun W => Enc W A B _) (ht L hL))
    have q : z * evX (-(z * z * mkRat 1 2)) L * (1 / r) * sk (z * z) 3 L = arV z (z * z) (z * z / 2) r L := by
      unfold arV
      have h2 : z * z * mkRat 1 2 = z * z / 2 := by rw [half_mk, Rat.div_def, Rat.div_def]; grind
      rw [h2]; grind
    rw [q] at e
    exact e
  clear ea ec q0 q64 a0 a1 a2 a3 zq h0 h8 o12
  obtain ⟨s1, n1, d1, rfl, -⟩ := hv
  generalize A / 2 ^ 130 = O1 at *
  generalize cdv B (2 ^ 130) = O2 at *
  generalize z * z = zz at *
  refine Go.Ev.Fn.intro (fn := Tryz.f100) (body := (Tryz.f100).body.get!) (by kernel_rfl) (by kernel_rfl) (by kernel_rfl) (fun _ => rfl) (Nat.le_of_ble_eq_true (by kernel_rfl)) ?_; unfold Tryz.f100; simp only [Option.get!_some]
  repeat (first | (simp only [go_sem, Nat.reduceEqDiff, Nat.reduceAdd, Nat.reduceSub, Nat.reduceMul, Nat.reduceLeDiff, Nat.reduceLT, reduceIte, reduceCtorEq, Nat.succ_ne_zero, elemsC, Int.reduceToNat, Nat.reducePow, hwi]) | (simp (disch := (first | omega | (simp only [AL, List.length_map]; omega))) only [AR, AL, ifT, ifF, take_all, List.length_cons, List.length_nil, Int.reduceToNat, Int.reducePow, Nat.reducePow, hwi]) | (refine wk_intro (by kernel_rfl) ?_) | (refine vp_draw (id := 2) (l := []) (by kernel_rfl) ?_) | (refine vf_of (by first | exact mu | exact fr | exact fa | exact bk) ?_))
theorem ref10_nigh {L : Nat} (hv : RatA v z L) (hL1 : 1 ≤ L) (hL : L ≤ 100) (h1 : -8 ≤ z) (h2 : z ≤ 8) : Go.Ev.Fn CX 28 [v] (.bool false) := by
  have im := ref2_Int (-8) (by omega)
  have ip := ref2_Int 8 (by omega)
  have c1 := ref2_Cmp hv (RatA_rv (int_szR (n := -8) (by omega))) hL1 (by omega) (by omega)
  have c2 := ref2_Cmp hv (RatA_rv (int_szR (n := 8) (by omega))) hL1 (by omega) (by omega)
  have e1 : decide (cmpR z ((-8 : Int) : Rat) < 0) = false := by rw [cmpR_lt]; exact decide_eq_false (Rat.not_lt.2 h1)
  have e2 : decide (cmpR z ((8 : Int) : Rat) > 0) = false := by rw [cmpR_gt]; exact decide_eq_false (Rat.not_lt.2 h2)
  obtain ⟨s, n, d, rfl, -⟩ := hv
  generalize cmpR z ((-8 : Int) : Rat) = y1 at *
  generalize cmpR z ((8 : Int) : Rat) = y2 at *
  refine Go.Ev.Fn.intro (fn := Tryz.f28) (body := (Tryz.f28).body.get!) (by kernel_rfl) (by kernel_rfl) (by kernel_rfl) (fun _ => rfl) (Nat.le_of_ble_eq_true (by kernel_rfl)) ?_; unfold Tryz.f28; simp only [Option.get!_some]
  repeat (first | (simp only [go_sem, Nat.reduceEqDiff, Nat.reduceAdd, Nat.reduceSub, Nat.reduceMul, Nat.reduceLeDiff, Nat.reduceLT, reduceIte, reduceCtorEq, Nat.succ_ne_zero, elemsC, Int.reduceToNat, Nat.reducePow, e1, e2]) | (simp (disch := (first | omega | (simp only [AL, List.length_map]; omega))) only [AR, AL, ifT, ifF, take_all, List.length_cons, List.length_nil, Int.reduceToNat, Int.reducePow, Nat.reducePow, e1, e2]) | (refine wk_intro (by kernel_rfl) ?_) | (refine vp_draw (id := 1) (l := []) (by kernel_rfl) ?_) | (refine vf_of (by first | exact im | exact c1 | exact ip | exact c2) ?_))
theorem neg_bd (neg : Bool) {z : Rat} (h0 : 0 ≤ z) (h8 : z ≤ 8) : -8 ≤ (if neg then -z else z) ∧ (if neg then -z else z) ≤ 8 := by
  cases neg
  · show -8 ≤ z ∧ z ≤ 8; constructor <;> grind
  · show -8 ≤ -z ∧ -z ≤ 8; constructor <;> grind
theorem szR_Z {A : Int} {w L : Nat} (h : (lim A.natAbs).length ≤ L) (hw : (lim (2 ^ w)).length ≤ L) (hL : 1 ≤ L) : szR (mkRat A (2 ^ w)) L := by
  obtain ⟨m, rfl | rfl⟩ := Int.eq_nat_or_neg A
  · exact szR_nat (by rw [Int.natAbs_natCast] at h; exact h) hw hL
  · have e : mkRat (-(m : Int)) (2 ^ w) = -mkRat (m : Int) (2 ^ w) := (Rat.neg_mkRat _ _).symm
    rw [e]
    exact szR_neg (szR_nat (by rw [Int.natAbs_neg, Int.natAbs_natCast] at h; exact h) hw hL)
theorem ref10_Phi (hv : RatA v (if neg then -z else z) 3) (h0 : 0 ≤ z) (h8 : z ≤ 8) (hp : p ≤ 200) :
    ∃ c d r1 r2 : Rat, Go.Ev.Fn CX 42 [v, .int .i64 (p : Int)] (.tup [ballR c d, .bool true]) ∧ szR c 600 ∧ szR d 600 ∧ 0 ≤ r1 ∧ 0 ≤ r2 ∧ r1 * r1 ≤ 2 * (SQ * SQ) ∧ 2 * (SQ * SQ) ≤ r2 * r2 ∧ ∀ r, r1 ≤ r → r ≤ r2 → ∃ t, ∀ L, t ≤ L → c ≤ 1 / 2 + (if neg then -arV z (z * z) (z * z / 2) r L else arV z (z * z) (z * z / 2) r L) ∧ 1 / 2 + (if neg then -arV z (z * z) (z * z / 2) r L else arV z (z * z) (z * z / 2) r L) ≤ d := by
  obtain ⟨A, B, r1, r2, fs, ab, lB, a0, a1, a2, a3, es⟩ := ref10_share (w := p + 20) hv h0 h8 (by omega) (by omega)
  have h12 : (0 : Rat) ≤ mkRat 1 2 := by rw [half_mk]; decide +kernel
  have nh := ref4_NumN (w := p + 20) (RatA_rv half_len) (by omega) (by omega) (by omega) h12
  have eh := num_enc h12 (p + 20)
  have hT : upN (mkRat 1 2) (p + 20) ≤ 2 ^ (p + 20) := upN_one h12 (by rw [half_mk]; decide +kernel)
  have hT1 := un_up (q := mkRat 1 2) (p + 20)
  have lH := lim_len_p2k hT
  have lH1 := lim_len_mono hT1
  have lp := lim_len_p2k (n := 2 ^ (p + 20)) (w := p + 20) (Nat.le_refl _)
  have oh := ref2_Of false [1] [2] (by simp [okL]) (by simp [okL]) (by simp) (by simp)
  rw [show wth [1] = 1 from rfl, show wth [2] = 2 from rfl] at oh
  have oh' : Go.Ev.Fn CX 30 [.bool false, .sl 1 [.int .u32 1], .sl 1 [.int .u32 2]] (rv (mkRat 1 2)) := oh
  clear oh
  have lA : (lim (sLo neg A B).natAbs).length ≤ 500 := Nat.le_trans (lim_len_mono (sLo_abs neg ab)) lB
  have lA2 : (lim (sHi neg A B).natAbs).length ≤ 500 := Nat.le_trans (lim_len_mono (sHi_abs neg ab)) lB
  have sm := ref4_Sum (a := ((unN (mkRat 1 2) (p + 20) : Nat) : Int)) (b := ((upN (mkRat 1 2) (p + 20) : Nat) : Int)) (c := sLo neg A B) (d := sHi neg A B) (by rw [Int.natAbs_natCast]; omega) (by rw [Int.natAbs_natCast]; omega) (by omega) (by omega)
  rw [ivN_eq] at sm
  have en : ∀ r, r1 ≤ r → r ≤ r2 → ∃ t, ∀ L, t ≤ L → EncZ (p + 20) (((unN (mkRat 1 2) (p + 20) : Nat) : Int) + sLo neg A B) (((upN (mkRat 1 2) (p + 20) : Nat) : Int) + sHi neg A B) (1 / 2 + (if neg then -arV z (z * z) (z * z / 2) r L else arV z (z * z) (z * z / 2) r L)) := by
    intro r g1 g2
    obtain ⟨t, ht⟩ := es r g1 g2
    refine ⟨t, fun L hL => ?_⟩
    obtain ⟨k1, k2⟩ := encS neg (ht L hL)
    rw [half_mk] at eh
    obtain ⟨k3, k4⟩ := eh
    unfold EncZ
    rw [castZ, castZ, castZn, castZn, half_mk, Rat.add_mul]
    exact ⟨add_le2 k3 k1, add_le2 k4 k2⟩
  have n1 : (lim (((unN (mkRat 1 2) (p + 20) : Nat) : Int) + sLo neg A B).natAbs).length ≤ 501 := by
    refine Nat.le_trans (lim_len_mono (Int.natAbs_add_le _ _)) (lim_len_add (L := 500) ?_ lA)
    rw [Int.natAbs_natCast]; omega
  have n2 : (lim (((upN (mkRat 1 2) (p + 20) : Nat) : Int) + sHi neg A B).natAbs).length ≤ 501 := by
    refine Nat.le_trans (lim_len_mono (Int.natAbs_add_le _ _)) (lim_len_add (L := 500) ?_ lA2)
    rw [Int.natAbs_natCast]; omega
  have bl := ref4_Ball (by omega) (by omega) (p + 20) (by omega) (a := ((unN (mkRat 1 2) (p + 20) : Nat) : Int) + sLo neg A B) (b := ((upN (mkRat 1 2) (p + 20) : Nat) : Int) + sHi neg A B)
  refine ⟨mkRat (((unN (mkRat 1 2) (p + 20) : Nat) : Int) + sLo neg A B) (2 ^ (p + 20)), mkRat (((upN (mkRat 1 2) (p + 20) : Nat) : Int) + sHi neg A B) (2 ^ (p + 20)), r1, r2, ?_, szR_Z (L := 600) (by omega) (by omega) (by omega), szR_Z (L := 600) (by omega) (by omega) (by omega), a0, a1, a2, a3, fun r g1 g2 => ?_⟩
  rotate_left
  · obtain ⟨t, ht⟩ := en r g1 g2
    exact ⟨t, fun L hL => mkZ_in (ht L hL)⟩
  have fr := ref10_nigh hv (by omega) (by omega) (neg_bd neg h0 h8).1 (neg_bd neg h0 h8).2
  have ho := ref10_Hold (p := p) (by omega)
  rw [show ((p + 20 : Nat) : Int) = (p : Int) + 20 from rfl] at fs nh bl
  clear en es eh hT hT1 h0 h8 a0 a1 a2 a3 n1 n2 ab h12
  obtain ⟨s1, n1, d1, rfl, -⟩ := hv
  generalize ((unN (mkRat 1 2) (p + 20) : Nat) : Int) + sLo neg A B = y1 at *
  generalize ((upN (mkRat 1 2) (p + 20) : Nat) : Int) + sHi neg A B = y2 at *
  generalize unN (mkRat 1 2) (p + 20) = u1 at *
  generalize upN (mkRat 1 2) (p + 20) = u2 at *
  generalize mkRat y1 (2 ^ (p + 20)) = q1 at *
  generalize mkRat y2 (2 ^ (p + 20)) = q2 at *
  generalize mkRat 1 2 = hf at *
  refine Go.Ev.Fn.intro (fn := Tryz.f42) (body := (Tryz.f42).body.get!) (by kernel_rfl) (by kernel_rfl) (by kernel_rfl) (fun _ => rfl) (Nat.le_of_ble_eq_true (by kernel_rfl)) ?_; unfold Tryz.f42; simp only [Option.get!_some]
  repeat (first | (simp only [go_sem, Nat.reduceEqDiff, Nat.reduceAdd, Nat.reduceSub, Nat.reduceMul, Nat.reduceLeDiff, Nat.reduceLT, reduceIte, reduceCtorEq, Nat.succ_ne_zero, elemsC, Int.reduceToNat, Nat.reducePow]) | (simp (disch := (first | omega | (simp only [AL, List.length_map]; omega))) only [AR, AL, ifT, ifF, take_all, List.length_cons, List.length_nil, Int.reduceToNat, Int.reducePow, Nat.reducePow]) | (refine wk_intro (by kernel_rfl) ?_) | (refine vp_draw (id := 5) (l := []) (by kernel_rfl) ?_) | (refine vf_of (by first | exact fr | exact ho | exact oh' | exact nh | exact fs | exact sm | exact bl) ?_))
theorem ref10_PhiFar {pI : Int} (hv : RatA v z 3) (h : z < -8 ∨ 8 < z) : Go.Ev.Fn CX 42 [v, .int .i64 pI] (.tup [ballR 0 0, .bool false]) := by
  have fr := ref10_Far hv (by omega) (by omega) h
  have i0 := ref2_Int 0 (by omega)
  have o := ref4_Of (RatA_rv (int_szR (n := 0) (by omega))) (by omega)
  rw [show ((0 : Int) : Rat) = 0 from rfl] at i0 o
  clear h
  obtain ⟨s, n, d, rfl, -⟩ := hv
  refine Go.Ev.Fn.intro (fn := Tryz.f42) (body := (Tryz.f42).body.get!) (by kernel_rfl) (by kernel_rfl) (by kernel_rfl) (fun _ => rfl) (Nat.le_of_ble_eq_true (by kernel_rfl)) ?_; unfold Tryz.f42; simp only [Option.get!_some]
  repeat (first | (simp only [go_sem, Nat.reduceEqDiff, Nat.reduceAdd, Nat.reduceSub, Nat.reduceMul, Nat.reduceLeDiff, Nat.reduceLT, reduceIte, reduceCtorEq, Nat.succ_ne_zero, elemsC, Int.reduceToNat, Nat.reducePow]) | (simp (disch := (first | omega | (simp only [AL, List.length_map]; omega))) only [AR, AL, ifT, ifF, take_all, List.length_cons, List.length_nil, Int.reduceToNat, Int.reducePow, Nat.reducePow]) | (refine wk_intro (by kernel_rfl) ?_) | (refine vp_draw (id := 5) (l := []) (by kernel_rfl) ?_) | (refine vf_of (by first | exact fr | exact i0 | exact o) ?_))
theorem ref10_Tail {pI : Int} {a b : Rat} {ok : Bool} (hv : RatA v z 3) (h : Go.Ev.Fn CX 42 [rv (-z), .int .i64 pI] (.tup [ballR a b, .bool ok])) : Go.Ev.Fn CX 32 [v, .int .i64 pI] (.tup [ballR a b, .bool ok]) := by
  have ng := ref2_Neg hv (by omega) (by omega)
  obtain ⟨s, n, d, rfl, -⟩ := hv
  generalize -z = y at *
  refine Go.Ev.Fn.intro (fn := Tryz.f32) (body := (Tryz.f32).body.get!) (by kernel_rfl) (by kernel_rfl) (by kernel_rfl) (fun _ => rfl) (Nat.le_of_ble_eq_true (by kernel_rfl)) ?_; unfold Tryz.f32; simp only [Option.get!_some]
  repeat (first | (simp only [go_sem, Nat.reduceEqDiff, Nat.reduceAdd, Nat.reduceSub, Nat.reduceMul, Nat.reduceLeDiff, Nat.reduceLT, reduceIte, reduceCtorEq, Nat.succ_ne_zero, elemsC, Int.reduceToNat, Nat.reducePow]) | (simp (disch := (first | omega | (simp only [AL, List.length_map]; omega))) only [AR, AL, ifT, ifF, take_all, List.length_cons, List.length_nil, Int.reduceToNat, Int.reducePow, Nat.reducePow]) | (refine wk_intro (by kernel_rfl) ?_) | (refine vf_of (by first | exact ng | exact h) ?_))
end
end Go.Proofs.YtemnjalaincijaaGreat
namespace Go.Proofs.YtemnjalaincijaaGreat
open Go.Ev
theorem root_common {a1 a2 b1 b2 q : Rat} (h1 : 0 ≤ a1) (h2 : a1 ≤ a2) (h3 : a1 * a1 ≤ q) (h4 : q ≤ a2 * a2) (g1 : 0 ≤ b1) (g2 : 0 ≤ b2) (g3 : b1 * b1 ≤ q) (g4 : q ≤ b2 * b2) : ∃ r : Rat, a1 ≤ r ∧ r ≤ a2 ∧ b1 ≤ r ∧ r ≤ b2 := by
  have k1 : a1 ≤ b2 := sq_mono h1 g2 (Rat.le_trans h3 g4)
  have k2 : b1 ≤ a2 := sq_mono g1 (Rat.le_trans h1 h2) (Rat.le_trans g3 h4)
  have k3 : b1 ≤ b2 := sq_mono g1 g2 (Rat.le_trans g3 g4)
  rcases Rat.le_total (a := a1) (b := b1) with g | g
  · exact ⟨b1, g, k2, Rat.le_refl, k3⟩
  · exact ⟨a1, Rat.le_refl, h2, g, k1⟩
section
variable {v : SV} {z : Rat} {p : Int} {P : Nat} {s : Bool} {N D : List Nat}
theorem phi_balls (hv : RatA v z 3) (h1 : -8 ≤ z) (h8 : z ≤ 8) (hpI : (p ≤ 0 ∧ P = 0) ∨ p = (P : Int)) (hP : P ≤ 104) :
    ∃ a b c d : Rat, Go.Ev.Fn CX 40 [v, .int .i64 p] (.tup [ballR a b, .bool true]) ∧ Go.Ev.Fn CX 42 [v, .int .i64 ((P : Int) + 20)] (.tup [ballR c d, .bool true]) ∧
      szR a 500 ∧ szR b 500 ∧ szR c 600 ∧ szR d 600 ∧ a ≤ b ∧ c ≤ b ∧ a ≤ d ∧ (b - a) * p2 P ≤ 1 := by
  have zz := szR_of hv (by omega)
  by_cases e : z = 0
  · subst e
    obtain ⟨c, d, r1, r2, f2, z1, z2, a0, a1, a2, a3, en⟩ := ref10_Phi (neg := false) (z := 0) (p := P + 20) hv (by decide) (by decide) (by omega)
    rw [show ((P + 20 : Nat) : Int) = (P : Int) + 20 from rfl] at f2
    obtain ⟨t, ht⟩ := en r1 Rat.le_refl (sq_mono a0 a1 (Rat.le_trans a2 a3))
    have k := ht t (Nat.le_refl _)
    have e0 : arV 0 (0 * 0) (0 * 0 / 2) r1 t = 0 := by unfold arV; rw [Rat.zero_mul, Rat.zero_mul, Rat.zero_mul]
    rw [if_neg (by decide), e0, Rat.add_zero] at k
    refine ⟨1 / 2, 1 / 2, c, d, bell_Phi0 hv, f2, szR_mono hlf_len (by omega), szR_mono hlf_len (by omega), z1, z2, Rat.le_refl, k.1, k.2, ?_⟩
    rw [Rat.sub_self, Rat.zero_mul]; decide
  rcases Rat.le_total (a := 0) (b := z) with g | g
  · obtain ⟨l, h, r1, r2, t1, t2, t3, thin, a0, a1, a2, a3, en, f1, -⟩ := bell_PhiE zz (by grind) h8 hpI hP
    obtain ⟨c, d, q1, q2, f2, z1, z2, b0, b1, b2, b3, en2⟩ := ref10_Phi (neg := false) (p := P + 20) hv g h8 (by omega)
    rw [show ((P + 20 : Nat) : Int) = (P : Int) + 20 from rfl] at f2
    obtain ⟨r, k1, k2, k3, k4⟩ := root_common a0 a1 a2 a3 b0 b1 b2 b3
    obtain ⟨s1, hs1⟩ := en r k1 k2
    obtain ⟨s2, hs2⟩ := en2 r k3 k4
    have m1 := hs1 (s1 + s2) (by omega)
    have m2 := hs2 (s1 + s2) (by omega)
    rw [if_neg (by decide)] at m2
    generalize arV z (z * z) (z * z / 2) r (s1 + s2) = V at *
    refine ⟨_, _, c, d, f1 v hv, f2, szR_mono (szR_add hlf_len t2 (by omega)) (by omega), szR_mono (szR_add hlf_len t3 (by omega)) (by omega), z1, z2, ?_, ?_, ?_, ?_⟩ <;> clear f1 f2 en en2 hs1 hs2
    · generalize (1 / 2 : Rat) = hf at *; grind
    · generalize (1 / 2 : Rat) = hf at *; grind
    · generalize (1 / 2 : Rat) = hf at *; grind
    · rw [show 1 / 2 + h - (1 / 2 + l) = h - l by generalize (1 / 2 : Rat) = hf; grind]; exact thin
  · have zn := szR_neg zz
    have hv' : RatA v (- -z) 3 := by rw [Rat.neg_neg]; exact hv
    obtain ⟨l, h, r1, r2, t1, t2, t3, thin, a0, a1, a2, a3, en, -, f1⟩ := bell_PhiE (z := -z) zn (by grind) (by grind) hpI hP
    obtain ⟨c, d, q1, q2, f2, z1, z2, b0, b1, b2, b3, en2⟩ := ref10_Phi (neg := true) (z := -z) (p := P + 20) hv' (by grind) (by grind) (by omega)
    rw [show ((P + 20 : Nat) : Int) = (P : Int) + 20 from rfl] at f2
    obtain ⟨r, k1, k2, k3, k4⟩ := root_common a0 a1 a2 a3 b0 b1 b2 b3
    obtain ⟨s1, hs1⟩ := en r k1 k2
    obtain ⟨s2, hs2⟩ := en2 r k3 k4
    have m1 := hs1 (s1 + s2) (by omega)
    have m2 := hs2 (s1 + s2) (by omega)
    rw [if_pos rfl] at m2
    generalize arV (-z) (-z * -z) (-z * -z / 2) r (s1 + s2) = V at *
    refine ⟨_, _, c, d, f1 v hv', f2, szR_mono (szR_add hlf_len (szR_neg t3) (by omega)) (by omega), szR_mono (szR_add hlf_len (szR_neg t2) (by omega)) (by omega), z1, z2, ?_, ?_, ?_, ?_⟩ <;> clear f1 f2 en en2 hs1 hs2
    · generalize (1 / 2 : Rat) = hf at *; grind
    · generalize (1 / 2 : Rat) = hf at *; grind
    · generalize (1 / 2 : Rat) = hf at *; grind
    · rw [show 1 / 2 + -l - (1 / 2 + -h) = h - l by generalize (1 / 2 : Rat) = hf; grind]; exact thin
theorem bphi_out (hN : N.length ≤ 9223372036854775807) (hD : D.length ≤ 9223372036854775807) (hp : -9223372036854775808 ≤ p ∧ p < 9223372036854775808)
    (h : 3 < N.length ∨ 3 < D.length ∨ 100 < p) : Go.Ev.Fn CX 9 [ratV s N D, .int .i64 p] (.bool true) := by
  have bg := law10_big s N D hN hD
  by_cases c0 : 3 < N.length ∨ 3 < D.length
  · rw [show (decide (3 < N.length) || decide (3 < D.length)) = true by rw [← Bool.decide_or]; exact decide_eq_true c0] at bg
    refine Go.Ev.Fn.intro (fn := Tryz.f9) (body := (Tryz.f9).body.get!) (by kernel_rfl) (by kernel_rfl) (by kernel_rfl) (fun _ => rfl) (Nat.le_of_ble_eq_true (by kernel_rfl)) ?_; unfold Tryz.f9; simp only [Option.get!_some]
    repeat (first | (simp only [go_sem, Nat.reduceEqDiff, Nat.reduceAdd, Nat.reduceSub, Nat.reduceMul, Nat.reduceLeDiff, Nat.reduceLT, reduceIte, reduceCtorEq, Nat.succ_ne_zero, elemsC, Int.reduceToNat, Nat.reducePow]) | (simp (disch := (first | omega | (simp only [AL, List.length_map]; omega))) only [AR, AL, ifT, ifF, take_all, List.length_cons, List.length_nil, Int.reduceToNat, Int.reducePow, Nat.reducePow]) | (refine wk_intro (by kernel_rfl) ?_) | (refine vp_draw (id := 10) (l := []) (by kernel_rfl) ?_) | (refine vf_of (by first | exact bg) ?_))
  · rw [show (decide (3 < N.length) || decide (3 < D.length)) = false by rw [← Bool.decide_or]; exact decide_eq_false c0] at bg
    have c1 : 100 < p := by omega
    refine Go.Ev.Fn.intro (fn := Tryz.f9) (body := (Tryz.f9).body.get!) (by kernel_rfl) (by kernel_rfl) (by kernel_rfl) (fun _ => rfl) (Nat.le_of_ble_eq_true (by kernel_rfl)) ?_; unfold Tryz.f9; simp only [Option.get!_some]
    repeat (first | (simp only [go_sem, Nat.reduceEqDiff, Nat.reduceAdd, Nat.reduceSub, Nat.reduceMul, Nat.reduceLeDiff, Nat.reduceLT, reduceIte, reduceCtorEq, Nat.succ_ne_zero, elemsC, Int.reduceToNat, Nat.reducePow]) | (simp (disch := (first | omega | (simp only [AL, List.length_map]; omega))) only [AR, AL, ifT, ifF, take_all, List.length_cons, List.length_nil, Int.reduceToNat, Int.reducePow, Nat.reducePow]) | (refine wk_intro (by kernel_rfl) ?_) | (refine vp_draw (id := 10) (l := []) (by kernel_rfl) ?_) | (refine vf_of (by first | exact bg) ?_))
set_option maxHeartbeats 1000000 in
theorem bphi_far (hv : RatA (ratV s N D) z 3) (h1 : N.length ≤ 3) (h2 : D.length ≤ 3) (hp : -9223372036854775808 ≤ p ∧ p ≤ 100) (far : z < -8 ∨ 8 < z) : Go.Ev.Fn CX 9 [ratV s N D, .int .i64 p] (.bool true) := by
  have bg := law10_big s N D (by omega) (by omega)
  rw [decide_eq_false (by omega), decide_eq_false (by omega), Bool.or_false] at bg
  have kn := known10
  have zn := szR_neg (szR_of hv (by omega))
  have far' : -z < -8 ∨ 8 < -z := far.elim (fun h => .inr (by grind)) (fun h => .inl (by grind))
  obtain ⟨P, hP⟩ : ∃ P : Int, (if (0 : Int) > p then (0 : Int) else p) = P := ⟨_, rfl⟩
  have hP2 : 0 ≤ P ∧ P ≤ 100 := by rw [← hP]; split <;> omega
  have f1 := bell_PhiFar (pI := p) hv far
  have f2 := ref10_PhiFar (pI := P + 20) hv far
  have f3 := bell_Tail (r := .bool true) hv (bell_PhiFar (pI := p) (RatA_rv zn) far')
  have f4 := ref10_Tail hv (ref10_PhiFar (pI := P + 20) (RatA_rv zn) far')
  have i0 := ref2_Int 0 (by omega)
  have zr : szR ((0 : Int) : Rat) 2 := int_szR (by omega)
  have o := ref4_Of (RatA_rv zr) (by omega)
  rw [show ((0 : Int) : Rat) = 0 from rfl] at i0 o zr
  have sm := ref4_Same (a := 0) (b := 0) zr zr (by omega) (by omega)
  have fb : (!(false == false)) = false := rfl
  clear zr zn far far' hv
  generalize (0 : Rat) = zz at *
  refine Go.Ev.Fn.intro (fn := Tryz.f9) (body := (Tryz.f9).body.get!) (by kernel_rfl) (by kernel_rfl) (by kernel_rfl) (fun _ => rfl) (Nat.le_of_ble_eq_true (by kernel_rfl)) ?_; unfold Tryz.f9; simp only [Option.get!_some]
  repeat (first | (simp only [go_sem, Nat.reduceEqDiff, Nat.reduceAdd, Nat.reduceSub, Nat.reduceMul, Nat.reduceLeDiff, Nat.reduceLT, reduceIte, reduceCtorEq, Nat.succ_ne_zero, elemsC, Int.reduceToNat, Nat.reducePow, hP, fb, Bool.not_false]) | (simp (disch := (first | omega | (simp only [AL, List.length_map]; omega))) only [AR, AL, ifT, ifF, take_all, List.length_cons, List.length_nil, Int.reduceToNat, Int.reducePow, Nat.reducePow, hP, fb, Bool.not_false]) | (refine wk_intro (by kernel_rfl) ?_) | (refine vp_draw (id := 10) (l := []) (by kernel_rfl) ?_) | (refine vf_of (by first | exact bg | exact f1 | exact f2 | exact f3 | exact f4 | exact i0 | exact o | exact sm | exact kn) ?_))
set_option maxHeartbeats 1000000 in
theorem bphi_in (hv : RatA (ratV s N D) z 3) (h1 : N.length ≤ 3) (h2 : D.length ≤ 3) (hp : -9223372036854775808 ≤ p) (hpI : (p ≤ 0 ∧ P = 0) ∨ p = (P : Int)) (hP : P ≤ 100) (g1 : -8 ≤ z) (g2 : z ≤ 8) : Go.Ev.Fn CX 9 [ratV s N D, .int .i64 p] (.bool true) := by
  have bg := law10_big s N D (by omega) (by omega)
  rw [decide_eq_false (by omega), decide_eq_false (by omega), Bool.or_false] at bg
  have kn := known10
  have zn := szR_neg (szR_of hv (by omega))
  obtain ⟨a, b, c, d, f1, f2, z1, z2, z3, z4, k1, k2, k3, k4⟩ := phi_balls hv g1 g2 hpI (by omega)
  obtain ⟨a', b', c', d', f1', f2', z1', z2', z3', z4', k1', k2', k3', k4'⟩ := phi_balls (RatA_rv zn) (by grind) (by grind) hpI (show P ≤ 104 by omega)
  have f3 := bell_Tail (r := .bool true) hv f1'
  have f4 := ref10_Tail hv f2'
  have gd1 := ref4_Good hpI (by omega) z1 z2 z3 z4 (by omega) (by omega) (by omega) k1 k2 k3 k4
  have gd2 := ref4_Good hpI (by omega) z1' z2' z3' z4' (by omega) (by omega) (by omega) k1' k2' k3' k4'
  have hP' : (if (0 : Int) > p then (0 : Int) else p) = (P : Int) := by split <;> omega
  have fb : (!(true == true)) = false := rfl
  clear k1 k2 k3 k4 k1' k2' k3' k4' z1 z2 z3 z4 z1' z2' z3' z4' g1 g2 zn f1' f2' hv
  refine Go.Ev.Fn.intro (fn := Tryz.f9) (body := (Tryz.f9).body.get!) (by kernel_rfl) (by kernel_rfl) (by kernel_rfl) (fun _ => rfl) (Nat.le_of_ble_eq_true (by kernel_rfl)) ?_; unfold Tryz.f9; simp only [Option.get!_some]
  repeat (first | (simp only [go_sem, Nat.reduceEqDiff, Nat.reduceAdd, Nat.reduceSub, Nat.reduceMul, Nat.reduceLeDiff, Nat.reduceLT, reduceIte, reduceCtorEq, Nat.succ_ne_zero, elemsC, Int.reduceToNat, Nat.reducePow, hP', fb, Bool.not_true]) | (simp (disch := (first | omega | (simp only [AL, List.length_map]; omega))) only [AR, AL, ifT, ifF, take_all, List.length_cons, List.length_nil, Int.reduceToNat, Int.reducePow, Nat.reducePow, hP', fb, Bool.not_true]) | (refine wk_intro (by kernel_rfl) ?_) | (refine vp_draw (id := 10) (l := []) (by kernel_rfl) ?_) | (refine vf_of (by first | exact bg | exact f1 | exact f2 | exact f3 | exact f4 | exact gd1 | exact gd2 | exact kn) ?_))
end
set_option maxRecDepth 100000 in
theorem bphi_law (ss0 : List SV) (sh0 : ShpT Tryz.prog 6 24 ss0) (p : Int) (w1 : (Lit.int .i64 p).wf = true) :
    Go.Ev.Fn CX 9 [.agg ss0, .int .i64 p] (.bool true) := by
  obtain ⟨s, N, D, rfl, hN, hD, lN, lD⟩ := shp_rat (n := 3) sh0
  have r1 := wf_int64E w1
  have mx : maxLen ≤ 9223372036854775807 := by decide
  by_cases c : 3 < N.length ∨ 3 < D.length ∨ 100 < p
  · exact bphi_out (Nat.le_trans lN mx) (Nat.le_trans lD mx) r1 c
  have c1 : N.length ≤ 3 := Nat.not_lt.1 fun h => c (.inl h)
  have c2 : D.length ≤ 3 := Nat.not_lt.1 fun h => c (.inr (.inl h))
  obtain ⟨z, hv⟩ : ∃ x : Rat, RatA (ratV s N D) x 3 := ⟨_, s, N, D, rfl, hN, hD, c1, c2, rfl⟩
  by_cases far : z < -8 ∨ 8 < z
  · exact bphi_far hv c1 c2 (by omega) far
  · exact bphi_in (P := p.toNat) hv c1 c2 r1.1 (by omega) (by omega) (Rat.not_lt.1 fun h => far (.inl h)) (Rat.not_lt.1 fun h => far (.inr h))
end Go.Proofs.YtemnjalaincijaaGreat
namespace Go.Proofs.YtemnjalaincijaaGreat
open Go.Ev
section
variable {z : Rat} {P : Nat} {pI : Int}
theorem m2_div {q : Rat} : q / ((-2 : Int) : Rat) = -(q / 2) := by
  have e : ((-2 : Int) : Rat) = -2 := rfl
  rw [e, Rat.div_def, Rat.div_def]
  have i : (-2 : Rat)⁻¹ = -(2 : Rat)⁻¹ := by decide +kernel
  rw [i]; grind
theorem half_bd {q : Rat} (h0 : 0 ≤ q) (h : q ≤ 64) : -64 ≤ -(q / 2) ∧ -(q / 2) ≤ 0 := by
  have hh : q / 2 * 2 = q := Rat.div_mul_cancel (by decide)
  generalize q / 2 = t at *
  constructor <;> grind
theorem sq_bd2 {z : Rat} (h1 : -8 ≤ z) (h2 : z ≤ 8) : 0 ≤ z * z ∧ z * z ≤ 64 := by
  rcases Rat.le_total (a := 0) (b := z) with g | g
  · exact sq_bd g h2
  · have a := sq_bd (z := -z) (by grind) (by grind)
    have e : -z * -z = z * z := by grind
    rw [e] at a; exact a
theorem bell_DensityFar {v : SV} (hv : RatA v z 3) (h : z < -8 ∨ 8 < z) : Go.Ev.Fn CX 46 [v, .int .i64 pI] (.tup [ballR 0 0, .bool false]) := by
  have fr := bell_far hv (by omega) (by omega) h
  have i0 := rat_Int 0 (by omega)
  have o := ball_Of (RatA_rv (int_szR (n := 0) (by omega))) (by omega)
  rw [show ((0 : Int) : Rat) = 0 from rfl] at i0 o
  clear h
  obtain ⟨s, n, d, rfl, -⟩ := hv
  refine Go.Ev.Fn.intro (fn := Tryz.f46) (body := (Tryz.f46).body.get!) (by kernel_rfl) (by kernel_rfl) (by kernel_rfl) (fun _ => rfl) (Nat.le_of_ble_eq_true (by kernel_rfl)) ?_; unfold Tryz.f46; simp only [Option.get!_some]
  repeat (first | (simp only [go_sem, Nat.reduceEqDiff, Nat.reduceAdd, Nat.reduceSub, Nat.reduceMul, Nat.reduceLeDiff, Nat.reduceLT, reduceIte, reduceCtorEq, Nat.succ_ne_zero, elemsC, Int.reduceToNat, Nat.reducePow]) | (simp (disch := (first | omega | (simp only [AL, List.length_map]; omega))) only [AR, AL, ifT, ifF, take_all, List.length_cons, List.length_nil, Int.reduceToNat, Int.reducePow, Nat.reducePow]) | (refine wk_intro (by kernel_rfl) ?_) | (refine vf_of (by first | exact fr | exact i0 | exact o) ?_))
theorem bell_Erf0 {v : SV} (hv : RatA v 0 3) : Go.Ev.Fn CX 44 [v, .int .i64 pI] (.tup [ballR 0 0, .bool true]) := by
  have fr := bell_nigh hv (by omega) (by omega) (by decide +kernel) (by decide +kernel)
  have zr := rat_Zero hv (by omega) (by omega)
  rw [decide_eq_true rfl] at zr
  have i0 := rat_Int 0 (by omega)
  have o := ball_Of (RatA_rv (int_szR (n := 0) (by omega))) (by omega)
  rw [show ((0 : Int) : Rat) = 0 from rfl] at i0 o
  obtain ⟨s, n, d, rfl, -⟩ := hv
  refine Go.Ev.Fn.intro (fn := Tryz.f44) (body := (Tryz.f44).body.get!) (by kernel_rfl) (by kernel_rfl) (by kernel_rfl) (fun _ => rfl) (Nat.le_of_ble_eq_true (by kernel_rfl)) ?_; unfold Tryz.f44; simp only [Option.get!_some]
  repeat (first | (simp only [go_sem, Nat.reduceEqDiff, Nat.reduceAdd, Nat.reduceSub, Nat.reduceMul, Nat.reduceLeDiff, Nat.reduceLT, reduceIte, reduceCtorEq, Nat.succ_ne_zero, elemsC, Int.reduceToNat, Nat.reducePow]) | (simp (disch := (first | omega | (simp only [AL, List.length_map]; omega))) only [AR, AL, ifT, ifF, take_all, List.length_cons, List.length_nil, Int.reduceToNat, Int.reducePow, Nat.reducePow]) | (refine wk_intro (by kernel_rfl) ?_) | (refine vp_draw (id := 2) (l := []) (by kernel_rfl) ?_) | (refine vp_draw (id := 5) (l := []) (by kernel_rfl) ?_) | (refine vf_of (by first | exact fr | exact zr | exact i0 | exact o) ?_))
  rfl
theorem bell_ErfFar {v : SV} (hv : RatA v z 3) (h : z < -8 ∨ 8 < z) : Go.Ev.Fn CX 44 [v, .int .i64 pI] (.tup [ballR 0 0, .bool false]) := by
  have fr := bell_far hv (by omega) (by omega) h
  have i0 := rat_Int 0 (by omega)
  have o := ball_Of (RatA_rv (int_szR (n := 0) (by omega))) (by omega)
  rw [show ((0 : Int) : Rat) = 0 from rfl] at i0 o
  clear h
  obtain ⟨s, n, d, rfl, -⟩ := hv
  refine Go.Ev.Fn.intro (fn := Tryz.f44) (body := (Tryz.f44).body.get!) (by kernel_rfl) (by kernel_rfl) (by kernel_rfl) (fun _ => rfl) (Nat.le_of_ble_eq_true (by kernel_rfl)) ?_; unfold Tryz.f44; simp only [Option.get!_some]
  repeat (first | (simp only [go_sem, Nat.reduceEqDiff, Nat.reduceAdd, Nat.reduceSub, Nat.reduceMul, Nat.reduceLeDiff, Nat.reduceLT, reduceIte, reduceCtorEq, Nat.succ_ne_zero, elemsC, Int.reduceToNat, Nat.reducePow]) | (simp (disch := (first | omega | (simp only [AL, List.length_map]; omega))) only [AR, AL, ifT, ifF, take_all, List.length_cons, List.length_nil, Int.reduceToNat, Int.reducePow, Nat.reducePow]) | (refine wk_intro (by kernel_rfl) ?_) | (refine vp_draw (id := 2) (l := []) (by kernel_rfl) ?_) | (refine vp_draw (id := 5) (l := []) (by kernel_rfl) ?_) | (refine vf_of (by first | exact fr | exact i0 | exact o) ?_))
  rfl
end
section
variable {z : Rat} {p : Int} {s : Bool} {n d : List Nat}
end
end Go.Proofs.YtemnjalaincijaaGreat
