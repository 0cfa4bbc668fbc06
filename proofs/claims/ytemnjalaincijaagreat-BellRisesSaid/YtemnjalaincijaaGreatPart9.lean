/- Part 9 of the proof: the evaluator, contracts of functions and their plain laws (joined by program). No condition. -/
import Derived.Test.YtemnjalaincijaaGreatPart8
set_option linter.unusedVariables false
set_option linter.unusedSimpArgs false
set_option maxRecDepth 100000
namespace Go.Proofs.YtemnjalaincijaaGreat
open Go.Ev
theorem root_width4 {lo lo' hi' hi A B P : Rat} (hP : 0 < P) (a2 : lo ≤ lo') (a4 : A ≤ lo' * lo') (a5 : (lo' - lo) * P ≤ 1) (h0 : 0 ≤ lo) (b1 : 0 ≤ hi') (b3 : hi' * hi' ≤ B) (b5 : (hi - hi') * P ≤ 1) (hA : 1 ≤ A) (hAB : (B - A) * P ≤ 2) (hAB0 : A ≤ B) : (hi - lo) * P ≤ 4 := by
  have l0 : 0 ≤ lo' := Rat.le_trans h0 a2
  have l1 : 1 ≤ lo' := sq_mono (by decide) l0 (by rw [Rat.mul_one]; exact Rat.le_trans hA a4)
  have key : hi' - lo' ≤ B - A := by
    rcases Rat.le_total (a := hi') (b := lo') with g | g
    · grind
    · have h1 : (hi' - lo') * 1 ≤ (hi' - lo') * (hi' + lo') := Rat.mul_le_mul_of_nonneg_left (by grind) (by grind)
      have h2 : (hi' - lo') * (hi' + lo') = hi' * hi' - lo' * lo' := by grind
      grind
  have k2 := Rat.mul_le_mul_of_nonneg_right key (show 0 ≤ P by grind)
  have e : (hi - lo) * P = (hi - hi') * P + (hi' - lo') * P + (lo' - lo) * P := by grind
  grind
def beR : Nat × Nat := match wSt 129 41 300 3 9 1 9 1 with
  | (_, _, s, e) => (s + 20000, e + 100000)
def beOk : Bool := match wSt 129 41 300 3 9 1 9 1 with
  | (t', d', s, e) => Nat.ble t' 4 && Nat.ble d' 20 && pin ((s + 20001) * 2 + 1) fun u => pin ((e + 100008) * 2 + (s + 20001) * 2 + 2) fun v => Nat.ble (v * 2 + u * 8 + 2) (2 ^ 120)
theorem be_ok : beOk = true := by kernel_rfl
theorem be_at : (((beR.2 + 8) * 2 + (beR.1 + 1) * 2 + 2) * 2 + ((beR.1 + 1) * 2 + 1) * 8 + 2 ≤ 2 ^ 120) ∧ (wRow 129 41 5200 3 9 1 9 1).1 ≤ beR.1 ∧ (wRow 129 41 5200 3 9 1 9 1).2 ≤ beR.2 := by
  have h := be_ok
  unfold beOk at h
  unfold beR
  have st := fun t' d' s' e' => wRow_st 300 4900 3 9 1 9 1 (t' := t') (d' := d') (s' := s') (e' := e')
  rw [show 300 + 4900 = 5200 from rfl] at st
  generalize wRow 129 41 5200 3 9 1 9 1 = R at *
  generalize wSt 129 41 300 3 9 1 9 1 = r at *
  obtain ⟨t', d', s, e⟩ := r
  generalize 2 ^ 120 = K1 at *
  simp only [pin_eq, Bool.and_eq_true] at h
  obtain ⟨⟨g1, g2⟩, g3⟩ := h
  obtain ⟨a, b⟩ := st t' d' s e rfl (Nat.le_of_ble_eq_true g1) (Nat.le_of_ble_eq_true g2) (by omega)
  exact ⟨Nat.le_of_ble_eq_true g3, Nat.le_trans a (show s + 4 * 4900 ≤ s + 20000 by omega), Nat.le_trans b (show e + 20 * 4900 ≤ e + 100000 by omega)⟩
theorem two_64 {y m c : Rat} (h : y ≤ 64 * m) (g : m * 128 ≤ c) : y + y ≤ c := by grind
theorem le_64 {z : Rat} (a : z * z ≤ z * 8) (h : z ≤ 8) : z * z ≤ 64 := by grind
section
variable {n d w many : Nat}
theorem bell_rowE (hd : 0 < d) (hn : n ≤ 8 * d) (hm : 1 ≤ many) (hm2 : many ≤ 2) (ln : (lim n).length ≤ 100) (ld : (lim d).length ≤ 100) (hw0 : 8 ≤ w) (hw : w ≤ 1000) :
    ∃ A B : Nat, A ≤ B ∧ B < 2 ^ (w + 10014) ∧ B ≤ (beR.1 + 1) * 2 ^ w ∧ B ≤ A + (beR.2 + 8) ∧ (∀ s : Bool, Go.Ev.Fn CX 146 [ratV s (lim n) (lim d), .int .u64 (many : Int), .int .i64 (w : Int)] (spanV A B)) ∧
      ∀ z : Rat, z * (d : Rat) = (n : Rat) → ∃ s0, ∀ L, s0 ≤ L → Enc w A B (z * sk (z * z * (many : Rat)) 3 L) := by
  have fr := fun s => fix_RatS (s := s) (n := n) (d := d) (w := w) hd (by omega) (by omega) (by omega)
  have P : 2 ^ 8 ≤ 2 ^ w := Nat.pow_le_pow_right (by omega) hw0
  have Tle : n * 2 ^ w / d ≤ 2 ^ w * 8 := by
    refine (Nat.div_le_iff_le_mul hd).2 ?_
    have m := Nat.mul_le_mul_right (2 ^ w) hn
    have e : 8 * d * 2 ^ w = 2 ^ w * 8 * d := by rw [Nat.mul_comm, ← Nat.mul_assoc]
    omega
  have dR : (0 : Rat) < (d : Rat) := by exact_mod_cast hd
  have ez : ∀ z : Rat, z * (d : Rat) = (n : Rat) → Enc w (n * 2 ^ w / d) (n * 2 ^ w / d + 1) z := by
    intro z hz
    have f := floor_le (a := n * 2 ^ w) (d := d)
    have g := le_floor (a := n * 2 ^ w) (d := d) hd
    have k : ((n * 2 ^ w : Nat) : Rat) = z * p2 w * (d : Rat) := by
      have : ((n * 2 ^ w : Nat) : Rat) = (n : Rat) * p2 w := by exact_mod_cast rfl
      rw [this, ← hz]; grind
    rw [k] at f g
    exact ⟨le_by dR f, le_by dR g⟩
  have z8 : ∀ z : Rat, z * (d : Rat) = (n : Rat) → z ≤ 8 := by
    intro z hz
    refine le_by dR ?_
    rw [hz]
    have := Ex.castle hn
    rw [Ex.castmul] at this; exact this
  generalize n * 2 ^ w / d = T at *
  have e9 : 2 ^ (w + 9) = 2 ^ w * 512 := Nat.pow_add _ _ _
  have e8 : 2 ^ (w + 8) = 2 ^ w * 256 := Nat.pow_add _ _ _
  have e10 : 2 ^ (w + 10) = 2 ^ w * 1024 := Nat.pow_add _ _ _
  have lT := lim_len_pw (n := T) (w := w + 9) (by omega)
  have lT1 := lim_len_pw (n := T + 1) (w := w + 9) (by omega)
  have sq := fix_Mul (a := T) (b := T + 1) (c := T) (d := T + 1) (w := w) (by omega) (by omega) (by omega) (by omega) (by omega) (by omega)
  have S2 : (T + 1) * (T + 1) / 2 ^ w ≤ 2 ^ w * 64 + 17 := by
    refine (Nat.div_le_iff_le_mul (by omega)).2 ?_
    have m := Nat.mul_le_mul (show T + 1 ≤ 2 ^ w * 8 + 1 by omega) (show T + 1 ≤ 2 ^ w * 8 + 1 by omega)
    have e : (2 ^ w * 8 + 1) * (2 ^ w * 8 + 1) = (2 ^ w * 64 + 16) * 2 ^ w + 1 := by generalize 2 ^ w = y; grind
    have e' : (2 ^ w * 64 + 17) * 2 ^ w = (2 ^ w * 64 + 16) * 2 ^ w + 2 ^ w := by generalize 2 ^ w = y; grind
    omega
  have S12 : T * T / 2 ^ w ≤ (T + 1) * (T + 1) / 2 ^ w := Nat.div_le_div_right (Nat.mul_le_mul (by omega) (by omega))
  have S3 : (T + 1) * (T + 1) / 2 ^ w ≤ T * T / 2 ^ w + 18 := by
    have h : (T + 1) * (T + 1) ≤ T * T + 17 * 2 ^ w := by
      have : (T + 1) * (T + 1) = T * T + 2 * T + 1 := by grind
      omega
    have h2 := Nat.div_le_div_right (c := 2 ^ w) h
    rw [Nat.add_mul_div_right _ _ (by omega)] at h2
    omega
  have es : ∀ z : Rat, z * (d : Rat) = (n : Rat) → Enc w (T * T / 2 ^ w) ((T + 1) * (T + 1) / 2 ^ w + 1) (z * z) := fun z hz => enc_mul (ez z hz) (ez z hz)
  generalize T * T / 2 ^ w = s1 at *
  generalize (T + 1) * (T + 1) / 2 ^ w = s2 at *
  have om := nat_Of many (by omega)
  have o1 := fix_One
  have l1 := lim_len1
  have lm : (lim many).length ≤ 2 := lim_len_lt (by omega)
  have ls1 := lim_len_pw (n := s1) (w := w + 8) (by omega)
  have ls2 := lim_len_pw (n := s2 + 1) (w := w + 8) (by omega)
  have ti := fix_Times (a := s1) (b := s2 + 1) (n := many) (d := 1) (by omega) (by omega) (by omega) (by omega) (by omega)
  have et : ∀ z : Rat, z * (d : Rat) = (n : Rat) → Enc w (s1 * many / 1) ((s2 + 1) * many / 1 + 1) (z * z * (many : Rat)) := by
    intro z hz
    have e := enc_times (n := many) (d := 1) (by omega) (es z hz)
    have e2 : z * z * ((many : Nat) : Rat) / ((1 : Nat) : Rat) = z * z * (many : Rat) := by
      rw [show ((1 : Nat) : Rat) = 1 from rfl]
      generalize z * z * (many : Rat) = q
      have := Rat.div_mul_cancel (a := q) (b := 1) (by decide)
      rw [Rat.mul_one] at this; exact this
    rw [e2] at e; exact e
  have q1 : s1 * many / 1 ≤ (s2 + 1) * many / 1 + 1 := Nat.le_succ_of_le (Nat.div_le_div_right (Nat.mul_le_mul_right _ (by omega)))
  have q2 : (s2 + 1) * many / 1 + 1 ≤ 129 * 2 ^ w := by
    rw [Nat.div_one]
    have := Nat.mul_le_mul_left (s2 + 1) hm2
    omega
  have q3 : (s2 + 1) * many / 1 + 1 ≤ s1 * many / 1 + 41 := by
    rw [Nat.div_one, Nat.div_one]
    have := Nat.mul_le_mul_right many (show s2 + 1 ≤ s1 + 19 by omega)
    rw [Nat.add_mul s1 19] at this
    omega
  generalize s1 * many / 1 = Q1 at *
  generalize (s2 + 1) * many / 1 + 1 = Q2 at *
  have lQ1 := lim_len_pw (n := Q1) (w := w + 9) (by omega)
  have lQ2 := lim_len_pw (n := Q2) (w := w + 9) (by omega)
  have i0 := tInv_0 (w := w) (k0 := 3) (t1 := T) (t2 := T + 1) (a1 := T) (a2 := T + 1) (by omega) (by omega) (by omega) (by omega)
  obtain ⟨F, hF⟩ : ∃ F : Nat, F = 5200 := ⟨_, rfl⟩
  obtain ⟨A, B, hr, hAB, hB⟩ := tRow_end (w := w) (Y1 := Q1) (Y2 := Q2) (M := many * 128) (k0 := 3) (by omega) q1 (by omega) (by omega) (by omega) 1023 F 0 3 T (T + 1) T (T + 1) i0 (by omega) (by omega) (by omega)
  obtain ⟨-, w1, w2⟩ := tRow_wide (W := 129) (D := 41) q2 q1 q3 F F 3 _ _ _ _ 9 1 9 1 A B (Nat.le_refl _) (by omega) hr (by omega) (by omega) (by omega) (by omega) (by omega) (by omega)
  obtain ⟨-, w3, w4⟩ := be_at
  rw [hF] at w1 w2
  generalize wRow 129 41 5200 3 9 1 9 1 = wr at *
  have w5 := Nat.mul_le_mul_right (2 ^ w) w3
  refine ⟨A, B, hAB, hB, by rw [Nat.add_mul, Nat.one_mul]; omega, by omega, fun s => ?_, fun z hz => ?_⟩
  rotate_left
  · have en := et z hz
    have z0 := enc_nonneg (ez z hz)
    have zz : z * z * (many : Rat) ≤ 64 * (many : Rat) := by
      have a := Rat.mul_le_mul_of_nonneg_left (z8 z hz) z0
      exact Rat.mul_le_mul_of_nonneg_right (le_64 a (z8 z hz)) (nat_nonneg many)
    exact tRow_enc (c := z) (k0 := 3) (by omega) en z0 (fun i hM _ => by
      have c := Ex.castle hM
      rw [Ex.castmul, show ((128 : Nat) : Rat) = 128 from rfl] at c
      exact two_64 zz c) F 0 _ _ _ _ A B hr (by show Enc w _ _ (z * 1); rw [Rat.mul_one]; exact ez z hz) (by show Enc w _ _ (z * (0 + 1)); rw [Rat.zero_add, Rat.mul_one]; exact ez z hz)
  have lens := fun (i k t1 t2 a1 a2 : Nat) (hi : i ≤ F) (h : tInv w 3 i k t1 t2 a1 a2) => (show (lim t1).length ≤ 1000 ∧ (lim t2).length ≤ 1000 ∧ (lim a1).length ≤ 1000 ∧ (lim a2).length ≤ 1000 from by
    obtain ⟨h1, h2, h3, h4, h5⟩ := h
    have a := lim_len_pw h4
    have b := lim_len_mono h2
    have up : (i + 2) * 2 ^ (w + 10000) ≤ 2 ^ (w + 10014) := by
      have e : 2 ^ (w + 10014) = 16384 * 2 ^ (w + 10000) := by rw [show w + 10014 = 14 + (w + 10000) by omega, Nat.pow_add 2 14]
      rw [e]; exact Nat.mul_le_mul_right _ (by omega)
    have c := lim_len_pw (n := a2) (w := w + 10014) (by omega)
    have d := lim_len_mono h3
    exact ⟨by omega, by omega, by omega, by omega⟩)
  have step := fun (i k t1 t2 a1 a2 : Nat) (h : tInv w 3 i k t1 t2 a1 a2) => tInv_step (Y1 := Q1) (Y2 := Q2) (by omega) q1 (by omega) h
  have frs := fr s
  have shl : (many : Int) * 2 ^ 7 = ((many * 128 : Nat) : Int) := by omega
  clear fr ls1 ls2 S2 S12 S3 Tle e8 e9 e10 hB hAB w1 w2 w3 w4 w5 q2 q3 ez es et z8 P dR
  refine Go.Ev.Fn.intro (fn := Tryz.f146) (body := (Tryz.f146).body.get!) (by kernel_rfl) (by kernel_rfl) (by kernel_rfl) (fun _ => rfl) (Nat.le_of_ble_eq_true (by kernel_rfl)) ?_; unfold Tryz.f146; simp only [Option.get!_some]
  repeat (first | (simp only [go_sem, Nat.reduceEqDiff, Nat.reduceAdd, Nat.reduceSub, Nat.reduceMul, Nat.reduceLeDiff, Nat.reduceLT, reduceIte, reduceCtorEq, Nat.succ_ne_zero, elemsC, Int.reduceToNat, Nat.reducePow]) | (simp (disch := (first | omega | (simp only [AL, List.length_map]; omega))) only [AR, AL, ifT, ifF, take_all, List.length_cons, List.length_nil, Int.reduceToNat, Int.reducePow, Nat.reducePow]) | (refine wk_intro (by kernel_rfl) ?_) | (refine vf_of (by first | exact frs | exact sq | exact om | exact o1 | exact ti) ?_))
  refine vp_loop_inv (fun s' => s'.tmp 1 = .sv (.int .u64 (many : Int)) ∧ s'.tmp 2 = .sv (.int .i64 (w : Int)) ∧ s'.tmp 6 = .ptr 6 0 0 ∧ s'.obj 6 0 = some [.sl 0 [], .sl 0 []] ∧ s'.tmp 7 = .ptr 7 0 0 ∧ s'.tmp 8 = .ptr 8 0 0 ∧ s'.obj 8 0 = some [natV (lim Q1), natV (lim Q2)] ∧ s'.tmp 9 = .ptr 9 0 0 ∧
      ∃ f i k t1 t2 a1 a2 : Nat, s'.tmp 10 = .sv (.int .u64 (k : Int)) ∧ f + i = F ∧ tRow w Q1 Q2 (many * 128) f k t1 t2 a1 a2 = some (A, B) ∧ s'.obj 7 0 = some [natV (lim t1), natV (lim t2)] ∧ s'.obj 9 0 = some [natV (lim a1), natV (lim a2)] ∧ tInv w 3 i k t1 t2 a1 a2)
    (fun s' => match s'.tmp 10 with | .sv (.int _ i) => 20000 - i.toNat | _ => 0) ⟨rfl, rfl, rfl, rfl, rfl, rfl, rfl, rfl, F, 0, 3, T, T + 1, T, T + 1, rfl, by omega, hr, rfl, rfl, i0⟩ ?_
  rintro s' ⟨i1, i2, i6, o6, i7, i8, o8, i9, f, i, k, t1, t2, a1, a2, i10, hfi, hgo, o7, o9, hok⟩
  obtain ⟨lt1, lt2, la1, la2⟩ := lens i k t1 t2 a1 a2 (by omega) hok
  have hk := hok.1
  have st := step i k t1 t2 a1 a2 hok
  have sm := fix_Small (a := t1) (b := t2) (by omega) (k := 2) (by omega)
  cases f with
  | zero => simp only [tRow] at hgo; cases hgo
  | succ f =>
    rw [tRow] at hgo
    by_cases hs : many * 128 ≤ k ∧ t2 < 4
    · rw [if_pos hs] at hgo
      simp only [Option.some.injEq, Prod.mk.injEq] at hgo
      obtain ⟨rfl, rfl⟩ := hgo
      rw [decide_eq_true (show t2 < 2 ^ 2 from hs.2)] at sm
      have wd := fix_Wider (a := a1) (b := a2) (n := 8) (by omega) (by omega) (by omega)
      have hs1 := hs.1
      clear step lens st hr
      repeat (first | (simp only [go_sem, Nat.reduceEqDiff, Nat.reduceAdd, Nat.reduceSub, Nat.reduceMul, Nat.reduceLeDiff, Nat.reduceLT, reduceIte, reduceCtorEq, Nat.succ_ne_zero, elemsC, Int.reduceToNat, Nat.reducePow, i1, i2, i6, o6, i7, i8, o8, i9, i10, o7, o9, shl, Bool.not_true]) | (simp (disch := (first | omega | (simp only [AL, List.length_map]; omega))) only [AR, AL, ifT, ifF, take_all, List.length_cons, List.length_nil, Int.reduceToNat, Int.reducePow, Nat.reducePow, i1, i2, i6, o6, i7, i8, o8, i9, i10, o7, o9, shl, Bool.not_true]) | (refine wk_intro (by kernel_rfl) ?_) | (refine vf_of (by first | exact sm | exact wd) ?_))
    · rw [if_neg hs] at hgo
      obtain ⟨lu1, lu2, lb1, lb2⟩ := lens (i + 1) (k + 2) _ _ _ _ (by omega) st
      have mu := fix_Mul (a := t1) (b := t2) (c := Q1) (d := Q2) (w := w) (by omega) (by omega) (by omega) (by omega) (by omega) (by omega)
      have qk := nat_Of k (by omega)
      have lq : (lim k).length ≤ 2 := lim_len_lt (by omega)
      have z1 := lim_len_mul (a := t1) (b := Q1)
      have z2 := lim_len_mul (a := t2) (b := Q2)
      have z3 := lim_len_mono (Nat.div_le_self (t1 * Q1) (2 ^ w))
      have z4 := lim_len_add (a := t2 * Q2 / 2 ^ w) (b := 1) (L := 5000) (Nat.le_trans (lim_len_mono (Nat.div_le_self (t2 * Q2) (2 ^ w))) (by omega)) (by omega)
      have tk := fix_Times (a := t1 * Q1 / 2 ^ w) (b := t2 * Q2 / 2 ^ w + 1) (n := 1) (d := k) (by omega) (by omega) (by omega) (by omega) (by omega)
      generalize t1 * Q1 / 2 ^ w * 1 / k = u1 at *
      generalize (t2 * Q2 / 2 ^ w + 1) * 1 / k + 1 = u2 at *
      generalize t1 * Q1 / 2 ^ w = v1 at *
      generalize t2 * Q2 / 2 ^ w + 1 = v2 at *
      have ad := fix_Add (a := a1) (b := a2) (c := u1) (d := u2) (by omega) (by omega) (by omega) (by omega)
      clear step lens hr
      by_cases hs1 : k < many * 128
      · clear sm
        repeat (first | (simp only [go_sem, Nat.reduceEqDiff, Nat.reduceAdd, Nat.reduceSub, Nat.reduceMul, Nat.reduceLeDiff, Nat.reduceLT, reduceIte, reduceCtorEq, Nat.succ_ne_zero, elemsC, Int.reduceToNat, Nat.reducePow, i1, i2, i6, o6, i7, i8, o8, i9, i10, o7, o9, shl]) | (simp (disch := (first | omega | (simp only [AL, List.length_map]; omega))) only [AR, AL, ifT, ifF, take_all, List.length_cons, List.length_nil, Int.reduceToNat, Int.reducePow, Nat.reducePow, i1, i2, i6, o6, i7, i8, o8, i9, i10, o7, o9, shl]) | (refine wk_intro (by kernel_rfl) ?_) | (refine vf_of (by first | exact mu | exact o1 | exact qk | exact tk | exact ad) ?_))
        exact ⟨⟨f, i + 1, k + 2, u1, u2, a1 + u1, a2 + u2, rfl, by omega, hgo, rfl, rfl, st⟩, by omega⟩
      · rw [decide_eq_false (show ¬ t2 < 2 ^ 2 from fun h => hs ⟨by omega, h⟩)] at sm
        repeat (first | (simp only [go_sem, Nat.reduceEqDiff, Nat.reduceAdd, Nat.reduceSub, Nat.reduceMul, Nat.reduceLeDiff, Nat.reduceLT, reduceIte, reduceCtorEq, Nat.succ_ne_zero, elemsC, Int.reduceToNat, Nat.reducePow, i1, i2, i6, o6, i7, i8, o8, i9, i10, o7, o9, shl, Bool.not_false]) | (simp (disch := (first | omega | (simp only [AL, List.length_map]; omega))) only [AR, AL, ifT, ifF, take_all, List.length_cons, List.length_nil, Int.reduceToNat, Int.reducePow, Nat.reducePow, i1, i2, i6, o6, i7, i8, o8, i9, i10, o7, o9, shl, Bool.not_false]) | (refine wk_intro (by kernel_rfl) ?_) | (refine vf_of (by first | exact sm | exact mu | exact o1 | exact qk | exact tk | exact ad) ?_))
        exact ⟨⟨f, i + 1, k + 2, u1, u2, a1 + u1, a2 + u2, rfl, by omega, hgo, rfl, rfl, st⟩, by omega⟩
theorem bell_shareE (hm : 1 ≤ many) (hm2 : many ≤ 2) (hw0 : 8 ≤ w) (hw : w < 233) :
    ∃ A B : Nat, ∃ r1 r2 : Rat, Go.Ev.Fn CX 95 [.int .i64 (many : Int), .int .i64 (w : Int)] (spanV A B) ∧ A ≤ B ∧ B ≤ 2 * 2 ^ w ∧ B ≤ A + 8 ∧ 0 ≤ r1 ∧ r1 ≤ r2 ∧ r1 * r1 ≤ (many : Rat) * (SQ * SQ) ∧ (many : Rat) * (SQ * SQ) ≤ r2 * r2 ∧ ∀ r, r1 ≤ r → r ≤ r2 → Enc w A B (1 / r) := by
  obtain ⟨m1, m2, fp, h1, h2, h3, h4, z1, z2⟩ := many_pi hw0 hw
  have ri := rat_Int (many : Int) (by omega)
  have zi := int_szR (n := (many : Int)) (by omega)
  have o := ball_Of (RatA_rv zi) (by omega)
  have c1 : (1 : Rat) ≤ ((many : Int) : Rat) := by
    have : ((1 : Nat) : Rat) ≤ (many : Rat) := Ex.castle hm
    exact this
  have c2 : ((many : Int) : Rat) ≤ 2 := by
    have : (many : Rat) ≤ ((2 : Nat) : Rat) := Ex.castle hm2
    exact this
  have W := p2_pos w
  have W8 : ((256 : Nat) : Rat) ≤ p2 w := Ex.castle (show 2 ^ 8 ≤ 2 ^ w from Nat.pow_le_pow_right (by omega) hw0)
  rw [show ((256 : Nat) : Rat) = 256 from rfl] at W8
  have g12 : m1 ≤ m2 := Rat.le_trans h1 h2
  have m3 : 3 ≤ m1 := by
    have q : (31 / 10 : Rat) ≤ SQ * SQ := by decide +kernel
    have q2 : (31 / 10 : Rat) * 10 = 31 := by decide +kernel
    refine Rat.not_lt.1 fun g => ?_
    have := Rat.mul_le_mul_of_nonneg_left W8 (show 0 ≤ m2 - m1 by grind)
    grind
  have bm := ball_Mul (L := 80) (szR_mono zi (by omega)) (szR_mono zi (by omega)) (szR_mono z1 (by omega)) (szR_mono z2 (by omega)) (by omega) (by omega)
  rw [(lohi1 (show (0 : Rat) ≤ ((many : Int) : Rat) by grind) g12).1, (lohi1 (show (0 : Rat) ≤ ((many : Int) : Rat) by grind) g12).2] at bm
  have k1 : (3 : Rat) ≤ ((many : Int) : Rat) * m1 := by
    have := Rat.mul_le_mul_of_nonneg_left m3 (show (0 : Rat) ≤ ((many : Int) : Rat) by grind)
    grind
  have k2 := Rat.mul_le_mul_of_nonneg_left g12 (show (0 : Rat) ≤ ((many : Int) : Rat) by grind)
  have k3 := Rat.mul_le_mul_of_nonneg_left h1 (show (0 : Rat) ≤ ((many : Int) : Rat) by grind)
  have k4 := Rat.mul_le_mul_of_nonneg_left h2 (show (0 : Rat) ≤ ((many : Int) : Rat) by grind)
  have k5 : (((many : Int) : Rat) * m2 - ((many : Int) : Rat) * m1) * p2 w ≤ 2 := by
    have e : (((many : Int) : Rat) * m2 - ((many : Int) : Rat) * m1) * p2 w = ((many : Int) : Rat) * ((m2 - m1) * p2 w) := by grind
    rw [e]
    have a := Rat.mul_le_mul_of_nonneg_left h3 (show (0 : Rat) ≤ ((many : Int) : Rat) by grind)
    grind
  obtain ⟨lo, lo', hi', hi, fr, r1, r2, r3, r4, r5, r6, r7, r8, r9, r10, y1, y2⟩ := root_Of (L := 82) (p := w) (A := ((many : Int) : Rat) * m1) (B := ((many : Int) : Rat) * m2) (by grind) (by grind) (szR_mono (szR_mul zi z1 (by omega)) (by omega)) (szR_mono (szR_mul zi z2 (by omega)) (by omega)) (by omega) (by omega) (by omega)
  have fb := fix_Ball (w := w) (szR_mono y1 (show _ ≤ 200 by omega)) (szR_mono y2 (show _ ≤ 200 by omega)) (by omega) (by omega)
  have wd := root_width4 W r2 r4 r5 r1 r6 r8 r10 (show (1 : Rat) ≤ ((many : Int) : Rat) * m1 by grind) k5 k2
  have l1 : 3 / 2 ≤ lo' := by
    refine Rat.not_lt.1 fun g => ?_
    have e : (3 / 2 : Rat) * (3 / 2) = 9 / 4 := by decide +kernel
    have e2 : (9 / 4 : Rat) < 3 := by decide +kernel
    have p : (0 : Rat) < 3 / 2 := by decide +kernel
    have a := mul_le (Rat.le_of_lt g) (Rat.le_of_lt g) (Rat.le_of_lt p) (Rat.le_trans r1 r2)
    rw [e] at a
    grind
  have lo1 : 1 ≤ lo := by
    refine Rat.not_lt.1 fun g => ?_
    have := Rat.mul_le_mul_of_nonneg_left W8 (show 0 ≤ lo' - lo by grind)
    have p : (3 / 2 : Rat) * 2 = 3 := by decide +kernel
    grind
  have lh : lo ≤ hi := by
    have a : lo * lo ≤ hi * hi := Rat.le_trans r3 (Rat.le_trans k2 r9)
    have h0 : 0 ≤ hi := Rat.le_trans r6 r7
    exact sq_mono r1 h0 a
  obtain ⟨i1, i2, i3, i4, i5⟩ := inv_ball (w := w) (g := 4) lo1 lh wd (by have := Nat.pow_le_pow_right (n := 2) (by omega) hw0; omega) (by omega)
  have P : 2 ^ 8 ≤ 2 ^ w := Nat.pow_le_pow_right (by omega) hw0
  have hi5 : hi ≤ 5 := by
    have q : SQ * SQ ≤ 32 / 10 := by decide +kernel
    have q2 : (32 / 10 : Rat) * 10 = 32 := by decide +kernel
    have m2le : m2 ≤ 4 := by
      refine Rat.not_lt.1 fun g => ?_
      have := Rat.mul_le_mul_of_nonneg_left W8 (show 0 ≤ m2 - m1 by grind)
      grind
    have q8 : ((many : Int) : Rat) * m2 ≤ 8 := by
      have a := Rat.mul_le_mul_of_nonneg_right c2 (show 0 ≤ m2 by grind)
      grind
    have h4' : hi' ≤ 4 := by
      refine Rat.not_lt.1 fun h => ?_
      have := Rat.mul_le_mul_of_nonneg_right (Rat.le_of_lt h) r6
      grind
    refine Rat.not_lt.1 fun h => ?_
    have := Rat.mul_le_mul_of_nonneg_left W8 (show 0 ≤ hi - hi' by grind)
    grind
  have t2 : unN hi w ≤ 5 * 2 ^ w := by
    have u := (unN_le (show 0 ≤ hi by grind) w).1
    have m5 := Rat.mul_le_mul_of_nonneg_right hi5 (Rat.le_of_lt W)
    have t : ((unN hi w : Nat) : Rat) ≤ ((5 * 2 ^ w : Nat) : Rat) := by
      rw [Ex.castmul]; exact Rat.le_trans u m5
    exact_mod_cast t
  have um := unN_mono (show 0 ≤ lo by grind) lh w
  have e9 : 2 ^ (w + 9) = 2 ^ w * 512 := Nat.pow_add _ _ _
  have lA := lim_len_pw (n := unN lo w) (w := w + 9) (by omega)
  have lB := lim_len_pw (n := unN hi w + 1) (w := w + 9) (by omega)
  have iv := fix_Inverse (a := unN lo w) (b := unN hi w + 1) (w := w) (by omega) (by omega) (by omega) (by omega) (by omega)
  refine ⟨2 ^ (2 * w) / (unN hi w + 1), 2 ^ (2 * w) / unN lo w + 1, lo, hi, ?_, i1, i2, i3, by grind, lh, Rat.le_trans r3 k3, Rat.le_trans k4 r9, fun r a b => (enc_inv (w := w) (show 0 < unN lo w by omega) (ball_enc r1 a b w)).1⟩
  clear k1 k2 k3 k4 k5 r1 r2 r3 r4 r5 r6 r7 r8 r9 r10 lo1 lh h1 h2 h3 h4 g12 c1 c2 m3 wd l1 i1 i2 i3 i4 i5 hi5 t2 um
  generalize 2 ^ (2 * w) / (unN hi w + 1) = A at *
  generalize 2 ^ (2 * w) / unN lo w + 1 = B at *
  generalize ((many : Int) : Rat) * m1 = q1 at *
  generalize ((many : Int) : Rat) * m2 = q2 at *
  generalize unN hi w + 1 = u2 at *
  generalize unN lo w = u1 at *
  refine Go.Ev.Fn.intro (fn := Tryz.f95) (body := (Tryz.f95).body.get!) (by kernel_rfl) (by kernel_rfl) (by kernel_rfl) (fun _ => rfl) (Nat.le_of_ble_eq_true (by kernel_rfl)) ?_; unfold Tryz.f95; simp only [Option.get!_some]
  repeat (first | (simp only [go_sem, Nat.reduceEqDiff, Nat.reduceAdd, Nat.reduceSub, Nat.reduceMul, Nat.reduceLeDiff, Nat.reduceLT, reduceIte, reduceCtorEq, Nat.succ_ne_zero, elemsC, Int.reduceToNat, Nat.reducePow]) | (simp (disch := (first | omega | (simp only [AL, List.length_map]; omega))) only [AR, AL, ifT, ifF, take_all, List.length_cons, List.length_nil, Int.reduceToNat, Int.reducePow, Nat.reducePow]) | (refine wk_intro (by kernel_rfl) ?_) | (refine vf_of (by first | exact ri | exact o | exact fp | exact bm | exact fr | exact fb | exact iv) ?_))
end
end Go.Proofs.YtemnjalaincijaaGreat
namespace Go.Proofs.YtemnjalaincijaaGreat
open Go.Ev
def arV (z y q r : Rat) (L : Nat) : Rat := z * sk y 3 L * evX (-q) L * (1 / r)
section
variable {z : Rat} {w P : Nat} {pI : Int}
theorem bell_areaE {many S1 S2 : Nat} (hz : szR z 3) (h0 : 0 ≤ z) (h8 : z ≤ 8) (hm : 1 ≤ many) (hm2 : many ≤ 2) (hw0 : 8 ≤ w) (hw : w ≤ 400) (hS : S1 ≤ S2) (hS2 : S2 ≤ 2 * 2 ^ w) (hS3 : S2 ≤ S1 + 8) :
    ∃ A B : Nat, A ≤ B ∧ B ≤ 2 ^ (w + 120) ∧ B ≤ A + 2 ^ 120 ∧ (∀ r, Enc w S1 S2 (1 / r) → ∃ s0, ∀ L, s0 ≤ L → Enc w A B (arV z (z * z * (many : Rat)) (if many = 1 then z * z / 2 else z * z) r L)) ∧ ∀ y : Rat, y = z ∨ y = -z → Go.Ev.Fn CX 94 [rv y, .int .u64 (many : Int), spanV S1 S2, .int .i64 (w : Int)] (spanV A B) := by
  have zp := Nat.le_trans hz.1 (show 3 ≤ 100 by omega)
  have zd := Nat.le_trans hz.2 (show 3 ≤ 100 by omega)
  obtain ⟨R1, R2, r1, r2, r3, r4, fr, er⟩ := bell_rowE (n := z.num.natAbs) (d := z.den) (many := many) (w := w) z.den_pos (num_le8 h0 h8) hm hm2 zp zd hw0 (by omega)
  obtain ⟨g1, -, -⟩ := be_at
  generalize beR = bR at *
  obtain ⟨q0, q64⟩ := sq_bd h0 h8
  obtain ⟨sq, hsq, sqz, sq1, sq2⟩ : ∃ sq : Rat, sq = (if many = 1 then z * z / 2 else z * z) ∧ szR sq 7 ∧ 0 ≤ sq ∧ sq ≤ 64 := by
    by_cases e : many = 1
    · refine ⟨_, rfl, ?_, ?_⟩ <;> rw [if_pos e]
      · exact szR_mono (szR_div (szR_mul hz hz (by omega)) two_len (by omega) (by omega)) (by omega)
      · have hh : z * z / 2 * 2 = z * z := Rat.div_mul_cancel (by decide)
        generalize z * z / 2 = t at *
        clear r1 r2 fr
        constructor <;> grind
    · refine ⟨_, rfl, ?_, ?_⟩ <;> rw [if_neg e]
      · exact szR_mono (szR_mul hz hz (by omega)) (by omega)
      · exact ⟨q0, q64⟩
  have zn := szR_neg sqz
  obtain ⟨F1, F2, f1, f3, f2, ff, s2, ef⟩ := bell_fall (z := -sq) (w := w) (RatA_rv zn) (by omega) (by omega) (neg64 sq1 sq2).1 (neg64 sq1 sq2).2 (den_le zn (by omega)) (by omega)
  have ng := rat_Neg (RatA_rv sqz) (by omega) (by omega)
  have i2 := rat_Int 2 (by omega)
  have dv := rat_Div (RatA_rv (szR_mul hz hz (by omega))) (RatA_rv (int_szR (n := 2) (by omega))) (by omega) (by omega) (by omega)
  rw [show ((2 : Int) : Rat) = 2 from rfl] at i2 dv
  rw [decide_eq_true (show ¬ (2 : Rat) = 0 by decide)] at dv
  have P2 : 2 ^ 8 ≤ 2 ^ w := Nat.pow_le_pow_right (by omega) hw0
  have e1 : 2 ^ (w + 2) = 2 ^ w * 4 := Nat.pow_add _ _ _
  have lR2 := lim_len_pw r2
  have lR1 := lim_len_mono r1
  have lF2 := lim_len_pw (n := F2) (w := w + 2) (by omega)
  have lF1 := lim_len_mono f1
  have lS2 := lim_len_pw (n := S2) (w := w + 2) (by omega)
  have lS1 := lim_len_mono hS
  have m1 := fix_Mul (a := R1) (b := R2) (c := F1) (d := F2) (w := w) (by omega) (by omega) (by omega) (by omega) (by omega) (by omega)
  obtain ⟨u1, u2, u3⟩ := mulS (w := w) (β := 2) (δ := 2) r1 f1 r3 (show F2 ≤ 2 * 2 ^ w by omega) r4 f3
  obtain ⟨y1, y2, y3⟩ := mulS (w := w) (β := 2) (δ := 8) u1 hS u2 hS2 u3 hS3
  have hx : z * (z.den : Rat) = ((z.num.natAbs : Nat) : Rat) := by rw [Ex.denR z, ← castZn, num_abs h0]
  obtain ⟨s1, es⟩ := er z hx
  have en : ∀ r, Enc w S1 S2 (1 / r) → ∃ s0, ∀ L, s0 ≤ L → Enc w (R1 * F1 / 2 ^ w * S1 / 2 ^ w) ((R2 * F2 / 2 ^ w + 1) * S2 / 2 ^ w + 1) (arV z (z * z * (many : Rat)) (if many = 1 then z * z / 2 else z * z) r L) := by
    intro r hr
    refine ⟨s1 + s2, fun L hL => ?_⟩
    have e := enc_mul (enc_mul (es L (by omega)) (ef L (by omega))) hr
    rw [hsq] at e
    exact e
  have tw : ∀ k q Z, q ≤ 2 ^ k → Z ≤ q * 2 ^ w → Z ≤ 2 ^ (w + k) := by
    intro k q Z hz hZ
    rw [Nat.add_comm w, Nat.pow_add]
    exact Nat.le_trans hZ (Nat.mul_le_mul_right _ hz)
  have uB := tw 118 _ _ (by omega) u2
  have sB := tw 120 _ _ (by omega) y2
  have gap : (R2 * F2 / 2 ^ w + 1) * S2 / 2 ^ w + 1 ≤ R1 * F1 / 2 ^ w * S1 / 2 ^ w + 2 ^ 120 := by omega
  clear es ef er tw g1 u2 u3 y2 y3 r3 r4 f3
  generalize R1 * F1 / 2 ^ w = U1 at *
  generalize R2 * F2 / 2 ^ w + 1 = U2 at *
  have lU2 := lim_len_p2k uB
  have lU1 := lim_len_mono u1
  have m2 := fix_Mul (a := U1) (b := U2) (c := S1) (d := S2) (w := w) (by omega) (by omega) (by omega) (by omega) (by omega) (by omega)
  refine ⟨U1 * S1 / 2 ^ w, U2 * S2 / 2 ^ w + 1, y1, sB, gap, en, fun y hy => ?_⟩
  clear en sB gap uB
  obtain ⟨s, hs⟩ : ∃ s : Bool, rv y = ratV s (lim z.num.natAbs) (lim z.den) := by
    rcases hy with rfl | rfl
    · exact ⟨_, rfl⟩
    · exact rv_neg z
  have zy : szR y 3 := by
    rcases hy with rfl | rfl
    · exact hz
    · exact szR_neg hz
  have mu := rat_Mul (RatA_rv zy) (RatA_rv zy) (by omega) (by omega) (by omega)
  have yy := sq_same hy
  rw [yy, hs] at mu
  rw [hs]
  have frs := fr s
  generalize U1 * S1 / 2 ^ w = V1 at *
  generalize U2 * S2 / 2 ^ w + 1 = V2 at *
  clear fr yy zy hy hs e1 P2 u1 r1 r2 y1 hx
  by_cases e : many = 1
  · subst e
    rw [if_pos rfl] at hsq
    rw [← hsq] at dv
    clear hsq sqz sq1 sq2 q0 q64
    generalize z * z = zz at *
    generalize -sq = nsq at *
    refine Go.Ev.Fn.intro (fn := Tryz.f94) (body := (Tryz.f94).body.get!) (by kernel_rfl) (by kernel_rfl) (by kernel_rfl) (fun _ => rfl) (Nat.le_of_ble_eq_true (by kernel_rfl)) ?_; unfold Tryz.f94; simp only [Option.get!_some]
    repeat (first | (simp only [go_sem, Nat.reduceEqDiff, Nat.reduceAdd, Nat.reduceSub, Nat.reduceMul, Nat.reduceLeDiff, Nat.reduceLT, reduceIte, reduceCtorEq, Nat.succ_ne_zero, elemsC, Int.reduceToNat, Nat.reducePow]) | (simp (disch := (first | omega | (simp only [AL, List.length_map]; omega))) only [AR, AL, ifT, ifF, take_all, List.length_cons, List.length_nil, Int.reduceToNat, Int.reducePow, Nat.reducePow]) | (refine wk_intro (by kernel_rfl) ?_) | (refine vp_draw (id := 3) (l := []) (by kernel_rfl) ?_) | (refine vp_draw (id := 4) (l := []) (by kernel_rfl) ?_) | (refine vf_of (by first | exact mu | exact i2 | exact dv | exact frs | exact ng | exact ff | exact m1 | exact m2) ?_))
  · have e2 : many = 2 := by omega
    subst e2
    rw [if_neg (by omega)] at hsq
    rw [← hsq] at mu
    clear hsq sqz sq1 sq2 q0 q64 dv
    generalize -sq = nsq at *
    refine Go.Ev.Fn.intro (fn := Tryz.f94) (body := (Tryz.f94).body.get!) (by kernel_rfl) (by kernel_rfl) (by kernel_rfl) (fun _ => rfl) (Nat.le_of_ble_eq_true (by kernel_rfl)) ?_; unfold Tryz.f94; simp only [Option.get!_some]
    repeat (first | (simp only [go_sem, Nat.reduceEqDiff, Nat.reduceAdd, Nat.reduceSub, Nat.reduceMul, Nat.reduceLeDiff, Nat.reduceLT, reduceIte, reduceCtorEq, Nat.succ_ne_zero, elemsC, Int.reduceToNat, Nat.reducePow]) | (simp (disch := (first | omega | (simp only [AL, List.length_map]; omega))) only [AR, AL, ifT, ifF, take_all, List.length_cons, List.length_nil, Int.reduceToNat, Int.reducePow, Nat.reducePow]) | (refine wk_intro (by kernel_rfl) ?_) | (refine vp_draw (id := 3) (l := []) (by kernel_rfl) ?_) | (refine vp_draw (id := 4) (l := []) (by kernel_rfl) ?_) | (refine vf_of (by first | exact mu | exact frs | exact ng | exact ff | exact m1 | exact m2) ?_))
theorem bell_PhiE (hz : szR z 3) (h0 : 0 < z) (h8 : z ≤ 8) (hpI : (pI ≤ 0 ∧ P = 0) ∨ pI = (P : Int)) (hP : P ≤ 104) :
    ∃ l h r1 r2 : Rat, l ≤ h ∧ szR l 400 ∧ szR h 400 ∧ (h - l) * p2 P ≤ 1 ∧ 0 ≤ r1 ∧ r1 ≤ r2 ∧ r1 * r1 ≤ 2 * (SQ * SQ) ∧ 2 * (SQ * SQ) ≤ r2 * r2 ∧ (∀ r, r1 ≤ r → r ≤ r2 → ∃ s0, ∀ L, s0 ≤ L → l ≤ arV z (z * z) (z * z / 2) r L ∧ arV z (z * z) (z * z / 2) r L ≤ h) ∧ (∀ v, RatA v z 3 → Go.Ev.Fn CX 40 [v, .int .i64 pI] (.tup [ballR (1 / 2 + l) (1 / 2 + h), .bool true])) ∧ (∀ v, RatA v (-z) 3 → Go.Ev.Fn CX 40 [v, .int .i64 pI] (.tup [ballR (1 / 2 + -h) (1 / 2 + -l), .bool true])) := by
  have g1 : -8 ≤ z := by grind
  have g2 : -8 ≤ -z := by grind
  have g3 : -z ≤ 8 := by grind
  have g4 : ¬ z = 0 := by grind
  have g5 : ¬ -z = 0 := by grind
  obtain ⟨S1, S2, r1, r2, fs, s1, s2, s3, a0, a1, a2', a3, sE⟩ := bell_shareE (many := 2) (w := P + 128) (by omega) (by omega) (by omega) (by omega)
  obtain ⟨A, B, a1', a2, gap, ae, fa⟩ := bell_areaE (many := 2 - 1) (w := P + 128) hz (Rat.le_of_lt h0) h8 (by omega) (by omega) (by omega) (by omega) s1 s2 s3
  obtain ⟨K, hK⟩ : ∃ K : Nat, K = 10040 := ⟨_, rfl⟩
  have e40 : 2 ^ (P + 128 + 120) < 2 ^ (P + 128 + K) := Nat.pow_lt_pow_right (by omega) (by omega)
  rw [hK] at e40
  obtain ⟨l, h, t1, t2, t3, t4, t5, t6, ft⟩ := told_span (w := P + 128) (p := P + 2) a1' (Nat.lt_of_le_of_lt a2 e40) (by omega) (by omega)
  have thin := told_thin (w := P + 128) (p := P) (by omega) (show B ≤ A + 2 ^ (P + 128 - (P + 2)) from Nat.le_trans gap (Nat.add_le_add_left (Nat.pow_le_pow_right (by omega) (by omega)) _))
  rw [← t5, ← t6] at thin
  have ve : ∀ r, r1 ≤ r → r ≤ r2 → ∃ s0, ∀ L, s0 ≤ L → l ≤ arV z (z * z) (z * z / 2) r L ∧ arV z (z * z) (z * z / 2) r L ≤ h := by
    intro r q1 q2
    obtain ⟨s0, hs⟩ := ae r (sE r q1 q2)
    refine ⟨s0, fun L hL => ?_⟩
    have e := told_in (w := P + 128) (q := P + 2) (by omega) (hs L hL)
    rw [← t5, ← t6, if_pos rfl, show z * z * ((2 - 1 : Nat) : Rat) = z * z by rw [show ((2 - 1 : Nat) : Rat) = 1 from rfl, Rat.mul_one]] at e
    exact e
  rw [show ((2 : Nat) : Rat) = 2 from rfl] at a2' a3
  clear ae sE gap e40 hK a2
  have hh := bell_held hpI (show P ≤ 200 by omega)
  have i1 := rat_Int 1 (by omega)
  have i2 := rat_Int 2 (by omega)
  have dv := rat_Div (RatA_rv (int_szR (n := 1) (by omega))) (RatA_rv (int_szR (n := 2) (by omega))) (by omega) (by omega) (by omega)
  rw [half_div, decide_eq_true (show ¬ ((2 : Int) : Rat) = 0 by decide)] at dv
  have oh := ball_Of (RatA_rv hlf_len) (by omega)
  have ng := ball_Neg t3 t4 (by omega) (by omega)
  have ad1 := ball_Add hlf_len hlf_len t3 t4 (by omega) (by omega) (by omega)
  have ad2 := ball_Add hlf_len hlf_len (szR_neg t4) (szR_neg t3) (by omega) (by omega) (by omega)
  obtain ⟨n1, n2⟩ := num_neg_iff h0
  rw [show ((P + 128 : Nat) : Int) = (P : Int) + 128 from rfl] at fs fa ft
  rw [show ((P + 2 : Nat) : Int) = (P : Int) + 2 from rfl] at ft
  refine ⟨l, h, r1, r2, t1, t3, t4, thin, a0, a1, a2', a3, ve, fun v hv => ?_, fun v hv => ?_⟩
  · have fr := bell_nigh hv (by omega) (by omega) g1 h8
    have nm := rat_Norm hv (by omega)
    have zr := rat_Zero (RatA_rv hz) (by omega) (by omega)
    rw [decide_eq_false g4] at zr
    have fa1 := fa z (.inl rfl)
    have erz : rv z = ratV false (lim z.num.natAbs) (lim z.den) := by show ratV (decide (z.num < 0)) _ _ = _; rw [n1]
    rw [erz] at nm zr fa1
    clear fa ad2 ng n2 hz h0 h8 t1 t2 t3 t4 t5 t6 thin ve a0 a1 a2' a3 a1' s1 s2 s3
    obtain ⟨s, n, d, rfl, -⟩ := hv
    generalize 1 / 2 + l = q1 at *
    generalize 1 / 2 + h = q2 at *
    generalize (1 / 2 : Rat) = hf at *
    refine Go.Ev.Fn.intro (fn := Tryz.f40) (body := (Tryz.f40).body.get!) (by kernel_rfl) (by kernel_rfl) (by kernel_rfl) (fun _ => rfl) (Nat.le_of_ble_eq_true (by kernel_rfl)) ?_; unfold Tryz.f40; simp only [Option.get!_some]
    repeat (first | (simp only [go_sem, Nat.reduceEqDiff, Nat.reduceAdd, Nat.reduceSub, Nat.reduceMul, Nat.reduceLeDiff, Nat.reduceLT, reduceIte, reduceCtorEq, Nat.succ_ne_zero, elemsC, Int.reduceToNat, Nat.reducePow]) | (simp (disch := (first | omega | (simp only [AL, List.length_map]; omega))) only [AR, AL, ifT, ifF, take_all, List.length_cons, List.length_nil, Int.reduceToNat, Int.reducePow, Nat.reducePow]) | (refine wk_intro (by kernel_rfl) ?_) | (refine vp_draw (id := 8) (l := []) (by kernel_rfl) ?_) | (refine vp_draw (id := 11) (l := []) (by kernel_rfl) ?_) | (refine vf_of (by first | exact fr | exact nm | exact i1 | exact i2 | exact dv | exact zr | exact hh | exact fs | exact fa1 | exact ft | exact oh | exact ad1) ?_))
  · have zn := szR_neg hz
    have fr := bell_nigh hv (by omega) (by omega) g2 g3
    have nm := rat_Norm hv (by omega)
    have zr := rat_Zero (RatA_rv zn) (by omega) (by omega)
    rw [decide_eq_false g5] at zr
    have fa1 := fa (-z) (.inr rfl)
    have erz : rv (-z) = ratV true (lim (-z).num.natAbs) (lim (-z).den) := by show ratV (decide ((-z).num < 0)) _ _ = _; rw [n2]
    rw [erz] at nm zr fa1
    clear fa ad1 n1 hz h0 h8 t1 t2 t3 t4 t5 t6 thin ve a0 a1 a2' a3 a1' s1 s2 s3 zn
    obtain ⟨s, n, d, rfl, -⟩ := hv
    generalize 1 / 2 + -h = q1 at *
    generalize 1 / 2 + -l = q2 at *
    generalize (1 / 2 : Rat) = hf at *
    generalize -h = mh at *
    generalize -l = ml at *
    refine Go.Ev.Fn.intro (fn := Tryz.f40) (body := (Tryz.f40).body.get!) (by kernel_rfl) (by kernel_rfl) (by kernel_rfl) (fun _ => rfl) (Nat.le_of_ble_eq_true (by kernel_rfl)) ?_; unfold Tryz.f40; simp only [Option.get!_some]
    repeat (first | (simp only [go_sem, Nat.reduceEqDiff, Nat.reduceAdd, Nat.reduceSub, Nat.reduceMul, Nat.reduceLeDiff, Nat.reduceLT, reduceIte, reduceCtorEq, Nat.succ_ne_zero, elemsC, Int.reduceToNat, Nat.reducePow]) | (simp (disch := (first | omega | (simp only [AL, List.length_map]; omega))) only [AR, AL, ifT, ifF, take_all, List.length_cons, List.length_nil, Int.reduceToNat, Int.reducePow, Nat.reducePow]) | (refine wk_intro (by kernel_rfl) ?_) | (refine vp_draw (id := 8) (l := []) (by kernel_rfl) ?_) | (refine vp_draw (id := 11) (l := []) (by kernel_rfl) ?_) | (refine vf_of (by first | exact fr | exact nm | exact i1 | exact i2 | exact dv | exact zr | exact hh | exact fs | exact fa1 | exact ft | exact ng | exact oh | exact ad2) ?_))
end
end Go.Proofs.YtemnjalaincijaaGreat
namespace Go.Proofs.YtemnjalaincijaaGreat
open Go.Ev
def arT (j : Nat) (u : Rat) : Rat := 8 * u * tk (8 * u * (8 * u)) 3 j
def arTs : Nat → Rat → Rat
  | 0, _ => 8
  | j + 1, u => 64 * u * arT j u
theorem arT_step (j : Nat) (u : Rat) : arT (j + 1) u * ((3 + 2 * j : Nat) : Rat) = arT j u * (64 * (u * u)) := by
  have h := tk_step (y := 8 * u * (8 * u)) (k0 := 3) (by omega) j
  unfold arT
  generalize tk (8 * u * (8 * u)) 3 (j + 1) = a at *
  generalize tk (8 * u * (8 * u)) 3 j = b at *
  generalize ((3 + 2 * j : Nat) : Rat) = c at *
  have e : 8 * u * a * c = 8 * u * (c * a) := by grind
  rw [e, h]; grind
theorem dif_sq (c : Rat) : Dif (fun u => c * (u * u)) (fun u => c * (u + u)) :=
  dif_congr (dif_mul (dif_const c) (dif_mul dif_id dif_id)) (fun u => rfl) (fun u => by
    show c * (u * 1 + 1 * u) + 0 * (u * u) = c * (u + u); grind)
theorem dif_arT : ∀ j, Dif (arT j) (arTs j)
  | 0 => dif_congr (dif_mul (dif_const 8) dif_id) (fun u => by show 8 * u = 8 * u * 1; grind) (fun u => by show 8 * 1 + 0 * u = (8 : Rat); grind)
  | j + 1 => by
    have ih := dif_arT j
    obtain ⟨c, hc⟩ : ∃ c : Rat, ((3 + 2 * j : Nat) : Rat) * c = 1 := ⟨1 / ((3 + 2 * j : Nat) : Rat), Ex.mul_div _ 1 (by have : (0 : Rat) < ((3 + 2 * j : Nat) : Rat) := Ex.castlt (a := 0) (by omega); grind)⟩
    refine dif_congr (dif_mul ih (dif_sq (64 * c))) (fun u => ?_) (fun u => ?_)
    · show arT j u * (64 * c * (u * u)) = arT (j + 1) u
      have h := arT_step j u
      have e : arT j u * (64 * c * (u * u)) = arT j u * (64 * (u * u)) * c := by grind
      rw [e, ← h, Rat.mul_assoc, hc, Rat.mul_one]
    · show arT j u * (64 * c * (u + u)) + arTs j u * (64 * c * (u * u)) = 64 * u * arT j u
      cases j with
      | zero =>
        have e0 : arT 0 u = 8 * u := by show 8 * u * 1 = 8 * u; grind
        have e1 : arTs 0 u = 8 := rfl
        have e3 : ((3 + 2 * 0 : Nat) : Rat) = 3 := rfl
        rw [e3] at hc
        rw [e0, e1]
        have : 8 * u * (64 * c * (u + u)) + 8 * (64 * c * (u * u)) = 512 * (u * u) * (3 * c) := by grind
        rw [this, hc]; grind
      | succ j =>
        have h := arT_step j u
        have e1 : arTs (j + 1) u = 64 * u * arT j u := rfl
        have e5 : ((3 + 2 * (j + 1) : Nat) : Rat) = ((3 + 2 * j : Nat) : Rat) + 2 := by
          rw [show 3 + 2 * (j + 1) = 3 + 2 * j + 2 by omega, Ex.castadd (3 + 2 * j) 2]; rfl
        rw [e5] at hc
        rw [e1]
        have a : arT (j + 1) u * (64 * c * (u + u)) + 64 * u * arT j u * (64 * c * (u * u)) = 64 * u * c * (arT (j + 1) u * 2 + arT j u * (64 * (u * u))) := by grind
        rw [a, ← h]
        have b : 64 * u * c * (arT (j + 1) u * 2 + arT (j + 1) u * ((3 + 2 * j : Nat) : Rat)) = 64 * u * arT (j + 1) u * ((((3 + 2 * j : Nat) : Rat) + 2) * c) := by grind
        rw [b, hc, Rat.mul_one]
def arM (j : Nat) (u : Rat) : Rat := Ex.tm (-32 * (u * u)) j
def arMs : Nat → Rat → Rat
  | 0, _ => 0
  | j + 1, u => -64 * u * arM j u
theorem arM_step (j : Nat) (u : Rat) : ((j + 1 : Nat) : Rat) * arM (j + 1) u = -32 * (u * u) * arM j u := Ex.tm_succ _ j
theorem dif_arM : ∀ j, Dif (arM j) (arMs j)
  | 0 => dif_const 1
  | j + 1 => by
    have ih := dif_arM j
    obtain ⟨c, hc⟩ : ∃ c : Rat, ((j + 1 : Nat) : Rat) * c = 1 := ⟨1 / ((j + 1 : Nat) : Rat), Ex.mul_div _ 1 (Ex.nsucc_ne j)⟩
    refine dif_congr (dif_mul ih (dif_sq (-32 * c))) (fun u => ?_) (fun u => ?_)
    · show arM j u * (-32 * c * (u * u)) = arM (j + 1) u
      have h := arM_step j u
      have e : arM j u * (-32 * c * (u * u)) = -32 * (u * u) * arM j u * c := by grind
      rw [e, ← h]
      have e2 : ((j + 1 : Nat) : Rat) * arM (j + 1) u * c = ((j + 1 : Nat) : Rat) * c * arM (j + 1) u := by grind
      rw [e2, hc, Rat.one_mul]
    · show arM j u * (-32 * c * (u + u)) + arMs j u * (-32 * c * (u * u)) = -64 * u * arM j u
      cases j with
      | zero =>
        have e1 : arMs 0 u = 0 := rfl
        have e3 : ((0 + 1 : Nat) : Rat) = 1 := rfl
        rw [e3, Rat.one_mul] at hc
        rw [e1, hc]; grind
      | succ j =>
        have h := arM_step j u
        have e1 : arMs (j + 1) u = -64 * u * arM j u := rfl
        have e5 : ((j + 1 + 1 : Nat) : Rat) = ((j + 1 : Nat) : Rat) + 1 := by rw [Ex.castadd (j + 1) 1]; rfl
        rw [e5] at hc
        rw [e1]
        have a : arM (j + 1) u * (-32 * c * (u + u)) + -64 * u * arM j u * (-32 * c * (u * u)) = -64 * u * c * (arM (j + 1) u + -32 * (u * u) * arM j u) := by grind
        rw [a, ← h]
        have b : -64 * u * c * (arM (j + 1) u + ((j + 1 : Nat) : Rat) * arM (j + 1) u) = -64 * u * arM (j + 1) u * ((((j + 1 : Nat) : Rat) + 1) * c) := by grind
        rw [b, hc, Rat.mul_one]
def arA (u : Rat) : Nat → Rat
  | 0 => 0
  | L + 1 => arA u L + arT L u
theorem arA_is (u : Rat) : ∀ L, arA u L = 8 * u * sk (8 * u * (8 * u)) 3 L
  | 0 => by show (0 : Rat) = 8 * u * 0; grind
  | L + 1 => by
    have ih := arA_is u L
    show arA u L + 8 * u * tk (8 * u * (8 * u)) 3 L = 8 * u * (sk (8 * u * (8 * u)) 3 L + tk (8 * u * (8 * u)) 3 L)
    rw [ih]; grind
theorem dif_arA : ∀ L, Dif (fun u => arA u (L + 1)) (fun u => 8 + 64 * u * arA u L)
  | 0 => dif_congr (dif_arT 0) (fun u => by show arT 0 u = 0 + arT 0 u; grind) (fun u => by show (8 : Rat) = 8 + 64 * u * 0; grind)
  | L + 1 => dif_congr (dif_add (dif_arA L) (dif_arT (L + 1))) (fun u => rfl) (fun u => by
    show 8 + 64 * u * arA u L + 64 * u * arT L u = 8 + 64 * u * (arA u L + arT L u); grind)
theorem dif_arE : ∀ L, Dif (fun u => Ex.E (-32 * (u * u)) (L + 1)) (fun u => -64 * u * Ex.E (-32 * (u * u)) L)
  | 0 => dif_congr (dif_arM 0) (fun u => by show arM 0 u = 0 + Ex.tm _ 0; rw [Rat.zero_add]; rfl) (fun u => by show (0 : Rat) = -64 * u * 0; grind)
  | L + 1 => dif_congr (dif_add (dif_arE L) (dif_arM (L + 1))) (fun u => rfl) (fun u => by
    show -64 * u * Ex.E (-32 * (u * u)) L + -64 * u * Ex.tm (-32 * (u * u)) L = -64 * u * (Ex.E (-32 * (u * u)) L + Ex.tm (-32 * (u * u)) L); grind)
theorem tk_le_tm {y : Rat} (h : 0 ≤ y) : ∀ j, tk y 3 j ≤ Ex.tm y j
  | 0 => Rat.le_refl
  | j + 1 => by
    have ih := tk_le_tm h j
    have s1 := tk_step (y := y) (k0 := 3) (by omega) j
    have s2 := Ex.tm_succ y j
    have n1 := tk_nn (k0 := 3) (by omega) h (j + 1)
    have c : ((j + 1 : Nat) : Rat) ≤ ((3 + 2 * j : Nat) : Rat) := Ex.castle (by omega)
    have p : (0 : Rat) < ((j + 1 : Nat) : Rat) := Ex.nsucc_pos j
    refine le_by p ?_
    have m := Rat.mul_le_mul_of_nonneg_right c n1
    have m2 := Rat.mul_le_mul_of_nonneg_right ih h
    grind
theorem sk_le_E {y : Rat} (h : 0 ≤ y) : ∀ L, sk y 3 L ≤ Ex.E y L
  | 0 => Rat.le_refl
  | L + 1 => by
    have ih := sk_le_E h L
    have := tk_le_tm h L
    show sk y 3 L + tk y 3 L ≤ Ex.E y L + Ex.tm y L
    grind
theorem sq_unit {u : Rat} (h0 : 0 ≤ u) (h1 : u ≤ 1) : 0 ≤ u * u ∧ u * u ≤ 1 := by
  have a := Rat.mul_nonneg h0 h0
  have b := Rat.mul_le_mul_of_nonneg_left h1 h0
  exact ⟨a, by grind⟩
theorem ar_near {u e : Rat} {L : Nat} (h0 : 0 ≤ u) (h1 : u ≤ 1) (hL : 1 ≤ L) (hm : 2 * Ex.tm 64 L ≤ e) (hL2 : (64 : Rat) + 64 ≤ ((L + 1 : Nat) : Rat)) :
    Ex.Bdd (Ex.E (-32 * (u * u)) L - 1 / Ex.E (32 * (u * u)) L) e ∧ Ex.Bdd (arM L u) e ∧ 0 ≤ arT L u ∧ arT L u ≤ 8 * e ∧ 0 ≤ arA u L ∧ arA u L ≤ 8 * Ex.t2 102 ∧ 1 / Ex.t2 102 ≤ 1 / Ex.E (32 * (u * u)) L ∧ 1 / Ex.E (32 * (u * u)) L ≤ 1 := by
  obtain ⟨q0, q1⟩ := sq_unit h0 h1
  have y0 : 0 ≤ 32 * (u * u) := by grind
  have n32 : -(32 * (u * u)) = -32 * (u * u) := by grind
  have a := E_inv y0 hL (show (32 * (u * u) + 32 * (u * u)) + (32 * (u * u) + 32 * (u * u)) ≤ _ from Rat.le_trans (by grind) hL2)
  have m64 := Ex.tm_mono (x := 32 * (u * u) + 32 * (u * u)) (y := 64) (by grind) (by grind) L
  have m32 := Ex.tm_mono (x := 32 * (u * u)) (y := 64) (by grind) (by grind) L
  have t0 := Ex.tm_nn (x := 64) (by decide) L
  have b := tm_negB y0 L
  rw [n32] at a b
  have z0 : 0 ≤ 8 * u * (8 * u) := by grind
  have z64 : 8 * u * (8 * u) ≤ 64 := by grind
  have tz := tk_nn (k0 := 3) (by omega) z0 L
  have tl := Rat.le_trans (tk_le_tm z0 L) (Ex.tm_mono z0 z64 L)
  have sz := sk_nn (k0 := 3) (by omega) z0 L
  have sl := Rat.le_trans (sk_le_E z0 L) (E_big z0 z64 L)
  have one := E_one y0 hL
  have big := E_big y0 (by grind) L
  have K := Ex.t2_pos 102
  have i1 : Ex.E (32 * (u * u)) L * (1 / Ex.E (32 * (u * u)) L) = 1 := Ex.mul_div _ 1 (by grind)
  have i2 : Ex.t2 102 * (1 / Ex.t2 102) = 1 := Ex.mul_div _ 1 (by grind)
  have p1 : 0 ≤ 1 / Ex.E (32 * (u * u)) L := Ex.div_nn (by decide) (by grind)
  have p2 : 0 ≤ 1 / Ex.t2 102 := Ex.div_nn (by decide) K
  have r1 := Rat.mul_le_mul_of_nonneg_right one p1
  have r2 := Rat.mul_le_mul_of_nonneg_right big (Rat.mul_nonneg p1 p2)
  have k1 : Ex.E (32 * (u * u)) L * (1 / Ex.E (32 * (u * u)) L * (1 / Ex.t2 102)) = 1 / Ex.t2 102 := by rw [← Rat.mul_assoc, i1, Rat.one_mul]
  have k2 : Ex.t2 102 * (1 / Ex.E (32 * (u * u)) L * (1 / Ex.t2 102)) = 1 / Ex.E (32 * (u * u)) L := by
    have : Ex.t2 102 * (1 / Ex.E (32 * (u * u)) L * (1 / Ex.t2 102)) = 1 / Ex.E (32 * (u * u)) L * (Ex.t2 102 * (1 / Ex.t2 102)) := by grind
    rw [this, i2, Rat.mul_one]
  rw [k1, k2] at r2
  rw [i1, Rat.one_mul] at r1
  refine ⟨Ex.Bdd_mono a (by grind), Ex.Bdd_mono b (by grind), Rat.mul_nonneg (by grind) tz, ?_, ?_, ?_, r2, r1⟩
  · show 8 * u * tk (8 * u * (8 * u)) 3 L ≤ 8 * e
    have m := mul_le (show 8 * u ≤ 8 by grind) tl (by decide) tz
    grind
  · rw [arA_is]; exact Rat.mul_nonneg (by grind) sz
  · rw [arA_is]; exact mul_le (show 8 * u ≤ 8 by grind) sl (by decide) sz
theorem ar_slope {u e K A M T B B1 : Rat} (h0 : 0 ≤ u) (h1 : u ≤ 1) (K1 : 1 ≤ K) (he : 0 ≤ e) (hk : e * (K * (K * 2000)) ≤ 1) (hA0 : 0 ≤ A) (hA : A ≤ 8 * K) (hM : Ex.Bdd M e) (hT0 : 0 ≤ T) (hT : T ≤ 8 * e) (hB : Ex.Bdd B 2) (hB1 : 1 / K - e ≤ B1) : 0 ≤ 8 * B1 + 64 * u * (A * M - T * B) := by
  have K0 : 0 < K := by grind
  have i2 : K * (1 / K) = 1 := Ex.mul_div _ 1 (by grind)
  have e1 : e * (K * 2000) ≤ 1 / K := by
    refine le_by K0 ?_
    have : e * (K * 2000) * K = e * (K * (K * 2000)) := by grind
    rw [this, Rat.mul_comm (1 / K), i2]; exact hk
  have eK : e ≤ e * K := by
    have := Rat.mul_le_mul_of_nonneg_left K1 he
    rw [Rat.mul_one] at this; exact this
  have eK0 : 0 ≤ e * K := Rat.mul_nonneg he (by grind)
  have b1 := Ex.Bdd_mul (show Ex.Bdd A (8 * K) from ⟨by grind, hA⟩) hM
  have b2 := Ex.Bdd_mul (show Ex.Bdd T (8 * e) from ⟨by grind, hT⟩) hB
  have b3 := Ex.Bdd_mul (show Ex.Bdd u 1 from ⟨by grind, h1⟩) (Ex.Bdd_sub b1 b2)
  obtain ⟨l, -⟩ := b3
  have g : 8 * K * e = 8 * (e * K) := by grind
  have g2 : 1 * (8 * K * e + 8 * e * 2) ≤ 24 * (e * K) := by grind
  have g3 : 64 * u * (A * M - T * B) = 64 * (u * (A * M - T * B)) := by grind
  have g4 : e * (K * 2000) = 2000 * (e * K) := by grind
  rw [g3]
  generalize u * (A * M - T * B) = X at *
  generalize e * K = Z at *
  generalize 1 / K = R at *
  clear b1 b2 hA hM hT hB hk
  grind
theorem area_rises {x y e : Rat} (hx : 0 < x) (hxy : x ≤ y) (hy : y ≤ 8) (he : 0 < e) : ∃ N : Nat, ∀ L, N ≤ L → x * sk (x * x) 3 L * evX (-(x * x / 2)) L ≤ y * sk (y * y) 3 L * evX (-(y * y / 2)) L + e := by
  obtain ⟨K, hK⟩ : ∃ K : Rat, K = Ex.t2 102 := ⟨_, rfl⟩
  have K1 : 1 ≤ K := by rw [hK]; exact Ex.castle (show 1 ≤ 2 ^ 102 by decide +kernel)
  have Kp : 0 < K := by grind
  obtain ⟨d, hd0, hd1, hd2⟩ : ∃ d : Rat, 0 < d ∧ d * (K * (K * 2000)) ≤ 1 ∧ d * (16 * K) ≤ e := by
    have KK := Rat.mul_pos Kp (Rat.mul_pos Kp (show (0 : Rat) < 2000 by decide))
    have E0 : 0 < 16 * K / e := by rw [Rat.div_def]; exact Rat.mul_pos (by grind) (Rat.inv_pos.2 he)
    have ee : 16 * K / e * e = 16 * K := Rat.div_mul_cancel (by grind)
    obtain ⟨D, hD⟩ : ∃ D, D = K * (K * 2000) + 16 * K / e := ⟨_, rfl⟩
    have Dp : 0 < D := by rw [hD]; grind
    have i : D * (1 / D) = 1 := Ex.mul_div _ 1 (by grind)
    have ip : 0 < 1 / D := by rw [Rat.div_def, Rat.one_mul]; exact Rat.inv_pos.2 Dp
    refine ⟨1 / D, ip, ?_, ?_⟩
    · have := Rat.mul_le_mul_of_nonneg_left (show K * (K * 2000) ≤ D by rw [hD]; grind) (Rat.le_of_lt ip)
      rw [Rat.mul_comm (1 / D) D, i] at this; exact this
    · have m := Rat.mul_le_mul_of_nonneg_left (show 16 * K / e ≤ D by rw [hD]; grind) (Rat.le_of_lt ip)
      rw [Rat.mul_comm (1 / D) D, i] at m
      have m2 := Rat.mul_le_mul_of_nonneg_right m (Rat.le_of_lt he)
      rw [Rat.mul_assoc, ee, Rat.one_mul] at m2
      exact m2
  obtain ⟨N, hN⟩ := Ex.tm_small (y := 64) (by decide) hd0
  refine ⟨N + 2, fun L hL => ?_⟩
  obtain ⟨u, hu⟩ : ∃ u : Rat, x = 8 * u := ⟨x / 8, by rw [Ex.mul_div _ _ (by decide)]⟩
  obtain ⟨v, hv⟩ : ∃ v : Rat, y = 8 * v := ⟨y / 8, by rw [Ex.mul_div _ _ (by decide)]⟩
  obtain ⟨k, rfl⟩ : ∃ k, L = k + 1 := ⟨L - 1, by omega⟩
  have near := fun (t : Rat) (t0 : 0 ≤ t) (t1 : t ≤ 1) (m : Nat) (hm : N + 1 ≤ m) => ar_near (u := t) (e := d) (L := m) t0 t1 (by omega) (hN m (by omega)).2 (hN m (by omega)).1
  have mono : arA u (k + 1) * Ex.E (-32 * (u * u)) (k + 1) ≤ arA v (k + 1) * Ex.E (-32 * (v * v)) (k + 1) := by
    refine dif_mono (dif_mul (dif_arA k) (dif_arE k)) (show 0 ≤ u by grind) (show u ≤ v by grind) (show v ≤ 1 by grind) fun t h1 h2 => ?_
    have t0 : 0 ≤ t := by grind
    have t1 : t ≤ 1 := by grind
    obtain ⟨n1, n2, n3, n4, n5, n6, n7, n8⟩ := near t t0 t1 k (by omega)
    obtain ⟨g1, g2, g3, g4, g5, g6, g7, g8⟩ := near t t0 t1 (k + 1) (by omega)
    have e1 : arA t (k + 1) = arA t k + arT k t := rfl
    have e2 : Ex.E (-32 * (t * t)) (k + 1) = Ex.E (-32 * (t * t)) k + arM k t := rfl
    have s := ar_slope (u := t) (e := d) (K := K) (A := arA t k) (M := arM k t) (T := arT k t) (B := Ex.E (-32 * (t * t)) k) (B1 := Ex.E (-32 * (t * t)) (k + 1)) t0 t1 K1 (Rat.le_of_lt hd0) hd1 n5 (by rw [hK]; exact n6) n2 n3 n4 (by
      obtain ⟨a, b⟩ := n1
      have d1 : d ≤ 1 := by
        have KK : 1 ≤ K * (K * 2000) := by
          have a := mul_le (show 1 ≤ K from K1) (show 1 ≤ K * 2000 by grind) (by grind) (by decide)
          rw [Rat.one_mul] at a; exact a
        have := Rat.mul_le_mul_of_nonneg_left KK (Rat.le_of_lt hd0)
        grind
      have p : 0 ≤ 1 / Ex.E (32 * (t * t)) k := Rat.le_trans (Ex.div_nn (by decide) (Ex.t2_pos 102)) n7
      constructor <;> grind) (by
      obtain ⟨a, b⟩ := g1
      rw [hK]; grind)
    have fin : arA t (k + 1) * (-64 * t * Ex.E (-32 * (t * t)) k) + (8 + 64 * t * arA t k) * Ex.E (-32 * (t * t)) (k + 1) = 8 * Ex.E (-32 * (t * t)) (k + 1) + 64 * t * (arA t k * arM k t - arT k t * Ex.E (-32 * (t * t)) k) := by
      rw [e1, e2]; grind
    show 0 ≤ arA t (k + 1) * (-64 * t * Ex.E (-32 * (t * t)) k) + (8 + 64 * t * arA t k) * Ex.E (-32 * (t * t)) (k + 1)
    rw [fin]; exact s
  have val : ∀ t z : Rat, z = 8 * t → 0 < z → z ≤ 8 → Ex.Bdd (z * sk (z * z) 3 (k + 1) * evX (-(z * z / 2)) (k + 1) - arA t (k + 1) * Ex.E (-32 * (t * t)) (k + 1)) (8 * K * d) := by
    intro t z hz z0 z8
    obtain ⟨g1, g2, g3, g4, g5, g6, g7, g8⟩ := near t (by grind) (by grind) (k + 1) (by omega)
    have zz : 0 < z * z := Rat.mul_pos z0 z0
    have q : z * z / 2 = 32 * (t * t) := by
      have h := Rat.div_mul_cancel (a := z * z) (b := 2) (by decide)
      have : z * z = 32 * (t * t) * 2 := by rw [hz]; grind
      generalize z * z / 2 = w at *
      grind
    have ev : evX (-(z * z / 2)) (k + 1) = 1 / Ex.E (32 * (t * t)) (k + 1) := by
      have tt : 0 < 32 * (t * t) := by rw [← q]; have h := Rat.div_mul_cancel (a := z * z) (b := 2) (by decide); generalize z * z / 2 = w at *; grind
      unfold evX
      rw [q, if_pos (by grind), Rat.neg_neg]
    have ea : z * sk (z * z) 3 (k + 1) = arA t (k + 1) := by rw [arA_is, hz]
    rw [ev, ea]
    have b := Ex.Bdd_mul (show Ex.Bdd (arA t (k + 1)) (8 * K) from ⟨by grind, by rw [hK]; exact g6⟩) g1
    obtain ⟨b1, b2⟩ := b
    constructor <;> grind
  obtain ⟨v1, v2⟩ := val u x hu hx (by grind)
  obtain ⟨w1, w2⟩ := val v y hv (by grind) hy
  generalize x * sk (x * x) 3 (k + 1) * evX (-(x * x / 2)) (k + 1) = X at *
  generalize y * sk (y * y) 3 (k + 1) * evX (-(y * y / 2)) (k + 1) = Y at *
  have e8 : 8 * K * d + 8 * K * d = d * (16 * K) := by grind
  grind
theorem arV_rises {x y r l h : Rat} {s1 s2 : Nat} (hx : 0 < x) (hxy : x ≤ y) (hy : y ≤ 8) (hr : 0 ≤ r) (h1 : ∀ L, s1 ≤ L → l ≤ arV x (x * x) (x * x / 2) r L) (h2 : ∀ L, s2 ≤ L → arV y (y * y) (y * y / 2) r L ≤ h) : l ≤ h := by
  refine Rat.not_lt.1 fun g => ?_
  obtain ⟨R, hR⟩ : ∃ R : Rat, R = 1 / r := ⟨_, rfl⟩
  have R0 : 0 ≤ R := by
    rw [hR, Rat.div_def, Rat.one_mul]
    by_cases e : r = 0
    · rw [e]; decide +kernel
    · exact Rat.le_of_lt (Rat.inv_pos.2 (by grind))
  have Rp : 0 < R + 1 := by grind
  obtain ⟨e, he, hee⟩ : ∃ e : Rat, 0 < e ∧ e * (R + 1) = l - h := ⟨(l - h) / (R + 1), by rw [Rat.div_def]; exact Rat.mul_pos (by grind) (Rat.inv_pos.2 Rp), Rat.div_mul_cancel (by grind)⟩
  obtain ⟨N, hN⟩ := area_rises hx hxy hy he
  have a := h1 (s1 + s2 + N) (by omega)
  have b := h2 (s1 + s2 + N) (by omega)
  have c := Rat.mul_le_mul_of_nonneg_right (hN (s1 + s2 + N) (by omega)) R0
  unfold arV at a b
  rw [← hR] at a b
  generalize x * sk (x * x) 3 (s1 + s2 + N) * evX (-(x * x / 2)) (s1 + s2 + N) = X at *
  generalize y * sk (y * y) 3 (s1 + s2 + N) * evX (-(y * y / 2)) (s1 + s2 + N) = Y at *
  have : e * R < l - h := by rw [← hee]; grind
  grind
end Go.Proofs.YtemnjalaincijaaGreat
namespace Go.Proofs.YtemnjalaincijaaGreat
open Go.Ev
section
variable {v : SV} {x : Rat} {w n : Nat}
end
end Go.Proofs.YtemnjalaincijaaGreat
namespace Go.Proofs.YtemnjalaincijaaGreat
open Go.Ev
section
variable {v vs : SV} {z s : Rat} {w p C1 C2 : Nat} {neg : Bool}
theorem ref10_nigh {L : Nat} (hv : RatA v z L) (hL1 : 1 ≤ L) (hL : L ≤ 100) (h1 : -8 ≤ z) (h2 : z ≤ 8) : Go.Ev.Fn CX 28 [v] (.bool false) := by
  have im := ref2_Int (-8) (by omega)
  have ip := ref2_Int 8 (by omega)
  have c1 := ref2_Cmp hv (RatA_rv (int_szR (n := -8) (by omega))) hL1 (by omega) (by omega)
  have c2 := ref2_Cmp hv (RatA_rv (int_szR (n := 8) (by omega))) hL1 (by omega) (by omega)
  have e1 : decide (cmpR z ((-8 : Int) : Rat) < 0) = false := by rw [cmpR_lt]; exact decide_eq_false (Rat.not_lt.2 h1)
  have e2 : decide (cmpR z ((8 : Int) : Rat) > 0) = false := by rw [cmpR_gt]; exact decide_eq_false (Rat.not_lt.2 h2)
  obtain ⟨s, n, d, rfl, -⟩ := hv
  generalize cmpR z ((-8 : Int) : Rat) = y1 at *
  generalize cmpR z ((8 : Int) : Rat) = y2 at *
  refine Go.Ev.Fn.intro (fn := Tryz.f28) (body := (Tryz.f28).body.get!) (by kernel_rfl) (by kernel_rfl) (by kernel_rfl) (fun _ => rfl) (Nat.le_of_ble_eq_true (by kernel_rfl)) ?_; unfold Tryz.f28; simp only [Option.get!_some]
  repeat (first | (simp only [go_sem, Nat.reduceEqDiff, Nat.reduceAdd, Nat.reduceSub, Nat.reduceMul, Nat.reduceLeDiff, Nat.reduceLT, reduceIte, reduceCtorEq, Nat.succ_ne_zero, elemsC, Int.reduceToNat, Nat.reducePow, e1, e2]) | (simp (disch := (first | omega | (simp only [AL, List.length_map]; omega))) only [AR, AL, ifT, ifF, take_all, List.length_cons, List.length_nil, Int.reduceToNat, Int.reducePow, Nat.reducePow, e1, e2]) | (refine wk_intro (by kernel_rfl) ?_) | (refine vp_draw (id := 1) (l := []) (by kernel_rfl) ?_) | (refine vf_of (by first | exact im | exact c1 | exact ip | exact c2) ?_))
end
end Go.Proofs.YtemnjalaincijaaGreat
namespace Go.Proofs.YtemnjalaincijaaGreat
open Go.Ev
theorem root_common {a1 a2 b1 b2 q : Rat} (h1 : 0 ≤ a1) (h2 : a1 ≤ a2) (h3 : a1 * a1 ≤ q) (h4 : q ≤ a2 * a2) (g1 : 0 ≤ b1) (g2 : 0 ≤ b2) (g3 : b1 * b1 ≤ q) (g4 : q ≤ b2 * b2) : ∃ r : Rat, a1 ≤ r ∧ r ≤ a2 ∧ b1 ≤ r ∧ r ≤ b2 := by
  have k1 : a1 ≤ b2 := sq_mono h1 g2 (Rat.le_trans h3 g4)
  have k2 : b1 ≤ a2 := sq_mono g1 (Rat.le_trans h1 h2) (Rat.le_trans g3 h4)
  have k3 : b1 ≤ b2 := sq_mono g1 g2 (Rat.le_trans g3 g4)
  rcases Rat.le_total (a := a1) (b := b1) with g | g
  · exact ⟨b1, g, k2, Rat.le_refl, k3⟩
  · exact ⟨a1, Rat.le_refl, h2, g, k1⟩
section
variable {v : SV} {z : Rat} {p : Int} {P : Nat} {s : Bool} {N D : List Nat}
end
end Go.Proofs.YtemnjalaincijaaGreat
namespace Go.Proofs.YtemnjalaincijaaGreat
open Go.Ev
theorem law10_big2 (s t : Bool) (n d m e : List Nat) (hn : n.length ≤ 9223372036854775807) (hd : d.length ≤ 9223372036854775807) (hm : m.length ≤ 9223372036854775807) (he : e.length ≤ 9223372036854775807) :
    Go.Ev.Fn CX 38 [.sl 2 [.bool s, natV n, natV d, .bool t, natV m, natV e]] (.bool (decide (3 < n.length ∨ 3 < d.length ∨ 3 < m.length ∨ 3 < e.length))) := by
  refine Go.Ev.Fn.intro (fn := Tryz.f38) (body := (Tryz.f38).body.get!) (by kernel_rfl) (by kernel_rfl) (by kernel_rfl) (fun _ => rfl) (Nat.le_of_ble_eq_true (by kernel_rfl)) ?_; unfold Tryz.f38; simp only [Option.get!_some]
  repeat (first | (simp only [go_sem, Nat.reduceEqDiff, Nat.reduceAdd, Nat.reduceSub, Nat.reduceMul, Nat.reduceLeDiff, Nat.reduceLT, reduceIte, reduceCtorEq, Nat.succ_ne_zero, elemsC, Int.reduceToNat, Nat.reducePow]) | (simp (disch := (first | omega | (simp only [AL, List.length_map]; omega))) only [AR, AL, ifT, ifF, take_all, List.length_cons, List.length_nil, Int.reduceToNat, Int.reducePow, Nat.reducePow]) | (refine wk_intro (by kernel_rfl) ?_))
  refine vp_loop_inv (fun st => st.tmp 0 = .sv (.sl 2 [.bool s, natV n, natV d, .bool t, natV m, natV e]) ∧ ((st.tmp 3 = .sv (.int .i64 0)) ∨ (st.tmp 3 = .sv (.int .i64 1) ∧ n.length ≤ 3 ∧ d.length ≤ 3) ∨ (st.tmp 3 = .sv (.int .i64 2) ∧ n.length ≤ 3 ∧ d.length ≤ 3 ∧ m.length ≤ 3 ∧ e.length ≤ 3)))
    (fun st => match st.tmp 3 with | .sv (.int _ i) => 2 - i.toNat | _ => 0) ⟨rfl, .inl rfl⟩ ?_
  rintro st ⟨i0, i3 | ⟨i3, h1, h2⟩ | ⟨i3, h1, h2, h3, h4⟩⟩
  · by_cases h1 : 3 < n.length
    · rw [decide_eq_true (.inl h1)]
      repeat (first | (simp only [go_sem, Nat.reduceEqDiff, Nat.reduceAdd, Nat.reduceSub, Nat.reduceMul, Nat.reduceLeDiff, Nat.reduceLT, reduceIte, reduceCtorEq, Nat.succ_ne_zero, elemsC, Int.reduceToNat, Nat.reducePow, i0, i3]) | (simp (disch := (first | omega | (simp only [AL, List.length_map]; omega))) only [AR, AL, ifT, ifF, take_all, List.length_cons, List.length_nil, Int.reduceToNat, Int.reducePow, Nat.reducePow, i0, i3]) | (refine wk_intro (by kernel_rfl) ?_))
    · by_cases h2 : 3 < d.length
      · rw [decide_eq_true (.inr (.inl h2))]
        repeat (first | (simp only [go_sem, Nat.reduceEqDiff, Nat.reduceAdd, Nat.reduceSub, Nat.reduceMul, Nat.reduceLeDiff, Nat.reduceLT, reduceIte, reduceCtorEq, Nat.succ_ne_zero, elemsC, Int.reduceToNat, Nat.reducePow, i0, i3]) | (simp (disch := (first | omega | (simp only [AL, List.length_map]; omega))) only [AR, AL, ifT, ifF, take_all, List.length_cons, List.length_nil, Int.reduceToNat, Int.reducePow, Nat.reducePow, i0, i3]) | (refine wk_intro (by kernel_rfl) ?_))
      · repeat (first | (simp only [go_sem, Nat.reduceEqDiff, Nat.reduceAdd, Nat.reduceSub, Nat.reduceMul, Nat.reduceLeDiff, Nat.reduceLT, reduceIte, reduceCtorEq, Nat.succ_ne_zero, elemsC, Int.reduceToNat, Nat.reducePow, i0, i3]) | (simp (disch := (first | omega | (simp only [AL, List.length_map]; omega))) only [AR, AL, ifT, ifF, take_all, List.length_cons, List.length_nil, Int.reduceToNat, Int.reducePow, Nat.reducePow, i0, i3]) | (refine wk_intro (by kernel_rfl) ?_))
        first | exact ⟨.inr (.inl ⟨rfl, by omega, by omega⟩), by decide⟩ | exact ⟨.inl ⟨by omega, by omega⟩, by decide⟩ | exact ⟨by omega, by omega⟩
  · by_cases h3 : 3 < m.length
    · rw [decide_eq_true (.inr (.inr (.inl h3)))]
      repeat (first | (simp only [go_sem, Nat.reduceEqDiff, Nat.reduceAdd, Nat.reduceSub, Nat.reduceMul, Nat.reduceLeDiff, Nat.reduceLT, reduceIte, reduceCtorEq, Nat.succ_ne_zero, elemsC, Int.reduceToNat, Nat.reducePow, i0, i3]) | (simp (disch := (first | omega | (simp only [AL, List.length_map]; omega))) only [AR, AL, ifT, ifF, take_all, List.length_cons, List.length_nil, Int.reduceToNat, Int.reducePow, Nat.reducePow, i0, i3]) | (refine wk_intro (by kernel_rfl) ?_))
    · by_cases h4 : 3 < e.length
      · rw [decide_eq_true (.inr (.inr (.inr h4)))]
        repeat (first | (simp only [go_sem, Nat.reduceEqDiff, Nat.reduceAdd, Nat.reduceSub, Nat.reduceMul, Nat.reduceLeDiff, Nat.reduceLT, reduceIte, reduceCtorEq, Nat.succ_ne_zero, elemsC, Int.reduceToNat, Nat.reducePow, i0, i3]) | (simp (disch := (first | omega | (simp only [AL, List.length_map]; omega))) only [AR, AL, ifT, ifF, take_all, List.length_cons, List.length_nil, Int.reduceToNat, Int.reducePow, Nat.reducePow, i0, i3]) | (refine wk_intro (by kernel_rfl) ?_))
      · repeat (first | (simp only [go_sem, Nat.reduceEqDiff, Nat.reduceAdd, Nat.reduceSub, Nat.reduceMul, Nat.reduceLeDiff, Nat.reduceLT, reduceIte, reduceCtorEq, Nat.succ_ne_zero, elemsC, Int.reduceToNat, Nat.reducePow, i0, i3]) | (simp (disch := (first | omega | (simp only [AL, List.length_map]; omega))) only [AR, AL, ifT, ifF, take_all, List.length_cons, List.length_nil, Int.reduceToNat, Int.reducePow, Nat.reducePow, i0, i3]) | (refine wk_intro (by kernel_rfl) ?_))
        first | exact ⟨.inr (.inr ⟨rfl, by omega, by omega, by omega, by omega⟩), by decide⟩ | exact ⟨⟨by omega, by omega, by omega, by omega⟩, by decide⟩ | exact ⟨by omega, by omega, by omega, by omega⟩
  · rw [decide_eq_false (by omega)]
    repeat (first | (simp only [go_sem, Nat.reduceEqDiff, Nat.reduceAdd, Nat.reduceSub, Nat.reduceMul, Nat.reduceLeDiff, Nat.reduceLT, reduceIte, reduceCtorEq, Nat.succ_ne_zero, elemsC, Int.reduceToNat, Nat.reducePow, i0, i3]) | (simp (disch := (first | omega | (simp only [AL, List.length_map]; omega))) only [AR, AL, ifT, ifF, take_all, List.length_cons, List.length_nil, Int.reduceToNat, Int.reducePow, Nat.reducePow, i0, i3]) | (refine wk_intro (by kernel_rfl) ?_))
theorem ref4_SideLe {a b c d : Rat} {L M : Nat} (ha : szR a L) (hb : szR b L) (hc : szR c M) (hd : szR d M) (hL1 : 1 ≤ L) (hM1 : 1 ≤ M) (hL : L + M ≤ 100000) (h : a ≤ d) : ∃ k : Int, k ≤ 0 ∧ -1 ≤ k ∧ Go.Ev.Fn CX 19 [ballR a b, ballR c d] (.int .i64 k) := by
  have c1 := ref2_Cmp (RatA_rv hb) (RatA_rv hc) hL1 hM1 (by omega)
  have c2 := ref2_Cmp (RatA_rv ha) (RatA_rv hd) hL1 hM1 (by omega)
  have e2 : decide (cmpR a d > 0) = false := by rw [cmpR_gt]; exact decide_eq_false (Rat.not_lt.2 h)
  by_cases g : b < c
  · have e1 : decide (cmpR b c < 0) = true := by rw [cmpR_lt]; exact decide_eq_true g
    refine ⟨-1, by omega, by omega, ?_⟩
    clear g h
    generalize cmpR b c = y1 at *
    generalize cmpR a d = y2 at *
    refine Go.Ev.Fn.intro (fn := Tryz.f19) (body := (Tryz.f19).body.get!) (by kernel_rfl) (by kernel_rfl) (by kernel_rfl) (fun _ => rfl) (Nat.le_of_ble_eq_true (by kernel_rfl)) ?_; unfold Tryz.f19; simp only [Option.get!_some]
    repeat (first | (simp only [go_sem, Nat.reduceEqDiff, Nat.reduceAdd, Nat.reduceSub, Nat.reduceMul, Nat.reduceLeDiff, Nat.reduceLT, reduceIte, reduceCtorEq, Nat.succ_ne_zero, elemsC, Int.reduceToNat, Nat.reducePow, e1, e2]) | (simp (disch := (first | omega | (simp only [AL, List.length_map]; omega))) only [AR, AL, ifT, ifF, take_all, List.length_cons, List.length_nil, Int.reduceToNat, Int.reducePow, Nat.reducePow, e1, e2]) | (refine wk_intro (by kernel_rfl) ?_) | (refine vf_of (by first | exact c1) ?_))
  · have e1 : decide (cmpR b c < 0) = false := by rw [cmpR_lt]; exact decide_eq_false g
    refine ⟨0, by omega, by omega, ?_⟩
    clear g h
    generalize cmpR b c = y1 at *
    generalize cmpR a d = y2 at *
    refine Go.Ev.Fn.intro (fn := Tryz.f19) (body := (Tryz.f19).body.get!) (by kernel_rfl) (by kernel_rfl) (by kernel_rfl) (fun _ => rfl) (Nat.le_of_ble_eq_true (by kernel_rfl)) ?_; unfold Tryz.f19; simp only [Option.get!_some]
    repeat (first | (simp only [go_sem, Nat.reduceEqDiff, Nat.reduceAdd, Nat.reduceSub, Nat.reduceMul, Nat.reduceLeDiff, Nat.reduceLT, reduceIte, reduceCtorEq, Nat.succ_ne_zero, elemsC, Int.reduceToNat, Nat.reducePow, e1, e2]) | (simp (disch := (first | omega | (simp only [AL, List.length_map]; omega))) only [AR, AL, ifT, ifF, take_all, List.length_cons, List.length_nil, Int.reduceToNat, Int.reducePow, Nat.reducePow, e1, e2]) | (refine wk_intro (by kernel_rfl) ?_) | (refine vf_of (by first | exact c1 | exact c2) ?_))
section
variable {P : Nat} {s t : Bool} {N D M E : List Nat}
def phiS (z a b : Rat) : Prop := (z < 0 → ∃ y l h r1 r2 : Rat, y = -z ∧ a = 1 / 2 + -h ∧ b = 1 / 2 + -l ∧ 0 ≤ h ∧ l ≤ h ∧ 0 ≤ r1 ∧ r1 ≤ r2 ∧ r1 * r1 ≤ 2 * (SQ * SQ) ∧ 2 * (SQ * SQ) ≤ r2 * r2 ∧ ∀ r, r1 ≤ r → r ≤ r2 → ∃ s0, ∀ L, s0 ≤ L → l ≤ arV y (y * y) (y * y / 2) r L ∧ arV y (y * y) (y * y / 2) r L ≤ h) ∧
  (z = 0 → a = 1 / 2 ∧ b = 1 / 2) ∧
  (0 < z → ∃ l h r1 r2 : Rat, a = 1 / 2 + l ∧ b = 1 / 2 + h ∧ 0 ≤ h ∧ l ≤ h ∧ 0 ≤ r1 ∧ r1 ≤ r2 ∧ r1 * r1 ≤ 2 * (SQ * SQ) ∧ 2 * (SQ * SQ) ≤ r2 * r2 ∧ ∀ r, r1 ≤ r → r ≤ r2 → ∃ s0, ∀ L, s0 ≤ L → l ≤ arV z (z * z) (z * z / 2) r L ∧ arV z (z * z) (z * z / 2) r L ≤ h)
theorem arV_nn {z r : Rat} {L : Nat} (h : 0 < z) (hr : 0 ≤ r) (hL : 1 ≤ L) : 0 ≤ arV z (z * z) (z * z / 2) r L := by
  have zz := Rat.mul_pos h h
  have q : 0 < z * z / 2 := by have e := Rat.div_mul_cancel (a := z * z) (b := 2) (by decide); generalize z * z / 2 = w at *; grind
  have R0 : 0 ≤ 1 / r := by
    rw [Rat.div_def, Rat.one_mul]
    by_cases e : r = 0
    · rw [e]; decide +kernel
    · exact Rat.le_of_lt (Rat.inv_pos.2 (by grind))
  exact Rat.mul_nonneg (Rat.mul_nonneg (Rat.mul_nonneg (Rat.le_of_lt h) (sk_nn (by omega) (Rat.le_of_lt zz) L)) (ev_le1 (z := -(z * z / 2)) (by grind) hL).2) R0
theorem phi_told {v : SV} {z : Rat} (hv : RatA v z 3) (h1 : -8 ≤ z) (h8 : z ≤ 8) (hP : P ≤ 100) : ∃ a b : Rat, Go.Ev.Fn CX 40 [v, .int .i64 (P : Int)] (.tup [ballR a b, .bool true]) ∧ szR a 500 ∧ szR b 500 ∧ phiS z a b := by
  have zz := szR_of hv (by omega)
  have nn : ∀ y l h r1 r2 : Rat, 0 < y → 0 ≤ r1 → r1 ≤ r2 → (∀ r, r1 ≤ r → r ≤ r2 → ∃ s0, ∀ L, s0 ≤ L → l ≤ arV y (y * y) (y * y / 2) r L ∧ arV y (y * y) (y * y / 2) r L ≤ h) → 0 ≤ h := by
    intro y l h r1 r2 hy hr1 hr2 hh
    obtain ⟨s0, hs⟩ := hh r1 Rat.le_refl hr2
    exact Rat.le_trans (arV_nn hy hr1 (show 1 ≤ s0 + 1 by omega)) (hs (s0 + 1) (by omega)).2
  by_cases e : z = 0
  · subst e
    exact ⟨1 / 2, 1 / 2, bell_Phi0 hv, szR_mono hlf_len (by omega), szR_mono hlf_len (by omega), (fun h => absurd h (by decide)), (fun _ => ⟨rfl, rfl⟩), (fun h => absurd h (by decide))⟩
  rcases Rat.le_total (a := 0) (b := z) with g | g
  · have zp : 0 < z := by grind
    obtain ⟨l, h, r1, r2, t1, t2, t3, thin, a0, a1, a2, a3, en, f1, -⟩ := bell_PhiE zz zp h8 (pI := (P : Int)) (.inr rfl) (show P ≤ 104 by omega)
    exact ⟨_, _, f1 v hv, szR_mono (szR_add hlf_len t2 (by omega)) (by omega), szR_mono (szR_add hlf_len t3 (by omega)) (by omega), (fun h => absurd g (Rat.not_le.2 h)), (fun h => absurd h e), (fun _ => ⟨l, h, r1, r2, rfl, rfl, nn z l h r1 r2 zp a0 a1 en, t1, a0, a1, a2, a3, en⟩)⟩
  · have zp : 0 < -z := by grind
    have hv' : RatA v (- -z) 3 := by rw [Rat.neg_neg]; exact hv
    obtain ⟨l, h, r1, r2, t1, t2, t3, thin, a0, a1, a2, a3, en, -, f1⟩ := bell_PhiE (z := -z) (szR_neg zz) zp (by grind) (pI := (P : Int)) (.inr rfl) (show P ≤ 104 by omega)
    exact ⟨_, _, f1 v hv', szR_mono (szR_add hlf_len (szR_neg t3) (by omega)) (by omega), szR_mono (szR_add hlf_len (szR_neg t2) (by omega)) (by omega), (fun _ => ⟨-z, l, h, r1, r2, rfl, rfl, rfl, nn (-z) l h r1 r2 zp a0 a1 en, t1, a0, a1, a2, a3, en⟩), (fun h => absurd h e), (fun h => absurd g (Rat.not_le.2 h))⟩
theorem phiS_rises {x y a b c d : Rat} (hxy : x ≤ y) (hx : -8 ≤ x) (hy : y ≤ 8) (h1 : phiS x a b) (h2 : phiS y c d) : a ≤ d := by
  obtain ⟨n1, z1, p1⟩ := h1
  obtain ⟨n2, z2, p2⟩ := h2
  by_cases x0 : x < 0
  · obtain ⟨u, l, h, r1, r2, hu, ha, hb, hn, lh, a0, a1, a2, a3, en⟩ := n1 x0
    by_cases y0 : y < 0
    · obtain ⟨w, l', h', r1', r2', hw, hc, hd, hn', lh', b0, b1, b2, b3, en'⟩ := n2 y0
      obtain ⟨r, k1, k2, k3, k4⟩ := root_common a0 a1 a2 a3 b0 (Rat.le_trans b0 b1) b2 b3
      obtain ⟨s1, g1⟩ := en r k1 k2
      obtain ⟨s2, g2⟩ := en' r k3 k4
      have := arV_rises (x := w) (y := u) (l := l') (h := h) (s1 := s2) (s2 := s1) (by grind) (by grind) (by grind) (Rat.le_trans a0 k1) (fun L hL => (g2 L hL).1) (fun L hL => (g1 L hL).2)
      rw [ha, hd]; clear en en' g1 g2; generalize (1 / 2 : Rat) = hf at *; grind
    · have hd : 1 / 2 ≤ d := by
        by_cases e : y = 0
        · rw [(z2 e).2]; exact Rat.le_refl
        · obtain ⟨l', h', r1', r2', hc, hd, hn', -⟩ := p2 (by grind)
          rw [hd]; clear en; generalize (1 / 2 : Rat) = hf at *; grind
      rw [ha]; clear en; generalize (1 / 2 : Rat) = hf at *; grind
  · by_cases e : x = 0
    · rw [(z1 e).1]
      by_cases e2 : y = 0
      · rw [(z2 e2).2]; exact Rat.le_refl
      · obtain ⟨l', h', r1', r2', hc, hd, hn', -⟩ := p2 (by grind)
        rw [hd]; generalize (1 / 2 : Rat) = hf at *; grind
    · obtain ⟨l, h, r1, r2, ha, hb, hn, lh, a0, a1, a2, a3, en⟩ := p1 (by grind)
      obtain ⟨l', h', r1', r2', hc, hd, hn', lh', b0, b1, b2, b3, en'⟩ := p2 (by grind)
      obtain ⟨r, k1, k2, k3, k4⟩ := root_common a0 a1 a2 a3 b0 (Rat.le_trans b0 b1) b2 b3
      obtain ⟨s1, g1⟩ := en r k1 k2
      obtain ⟨s2, g2⟩ := en' r k3 k4
      have := arV_rises (x := x) (y := y) (l := l) (h := h') (s1 := s1) (s2 := s2) (by grind) hxy hy (Rat.le_trans a0 k1) (fun L hL => (g1 L hL).1) (fun L hL => (g2 L hL).2)
      rw [ha, hd]; clear en en' g1 g2; generalize (1 / 2 : Rat) = hf at *; grind
variable {x y : Rat} {p : Int}
theorem brise_out (hN : N.length ≤ 9223372036854775807) (hD : D.length ≤ 9223372036854775807) (hM : M.length ≤ 9223372036854775807) (hE : E.length ≤ 9223372036854775807) (hp : -9223372036854775808 ≤ p ∧ p < 9223372036854775808)
    (h : (3 < N.length ∨ 3 < D.length ∨ 3 < M.length ∨ 3 < E.length) ∨ p < 0 ∨ 80 < p) : Go.Ev.Fn CX 8 [ratV s N D, ratV t M E, .int .i64 p] (.bool true) := by
  have bg := law10_big2 s t N D M E hN hD hM hE
  by_cases c0 : 3 < N.length ∨ 3 < D.length ∨ 3 < M.length ∨ 3 < E.length
  · rw [decide_eq_true c0] at bg
    refine Go.Ev.Fn.intro (fn := Tryz.f8) (body := (Tryz.f8).body.get!) (by kernel_rfl) (by kernel_rfl) (by kernel_rfl) (fun _ => rfl) (Nat.le_of_ble_eq_true (by kernel_rfl)) ?_; unfold Tryz.f8; simp only [Option.get!_some]
    repeat (first | (simp only [go_sem, Nat.reduceEqDiff, Nat.reduceAdd, Nat.reduceSub, Nat.reduceMul, Nat.reduceLeDiff, Nat.reduceLT, reduceIte, reduceCtorEq, Nat.succ_ne_zero, elemsC, Int.reduceToNat, Nat.reducePow]) | (simp (disch := (first | omega | (simp only [AL, List.length_map]; omega))) only [AR, AL, ifT, ifF, take_all, List.length_cons, List.length_nil, Int.reduceToNat, Int.reducePow, Nat.reducePow]) | (refine wk_intro (by kernel_rfl) ?_) | (refine vf_of (by first | exact bg) ?_))
  rw [decide_eq_false c0] at bg
  by_cases c1 : p < 0
  · refine Go.Ev.Fn.intro (fn := Tryz.f8) (body := (Tryz.f8).body.get!) (by kernel_rfl) (by kernel_rfl) (by kernel_rfl) (fun _ => rfl) (Nat.le_of_ble_eq_true (by kernel_rfl)) ?_; unfold Tryz.f8; simp only [Option.get!_some]
    repeat (first | (simp only [go_sem, Nat.reduceEqDiff, Nat.reduceAdd, Nat.reduceSub, Nat.reduceMul, Nat.reduceLeDiff, Nat.reduceLT, reduceIte, reduceCtorEq, Nat.succ_ne_zero, elemsC, Int.reduceToNat, Nat.reducePow]) | (simp (disch := (first | omega | (simp only [AL, List.length_map]; omega))) only [AR, AL, ifT, ifF, take_all, List.length_cons, List.length_nil, Int.reduceToNat, Int.reducePow, Nat.reducePow]) | (refine wk_intro (by kernel_rfl) ?_) | (refine vf_of (by first | exact bg) ?_))
  · have c2 : 80 < p := by omega
    refine Go.Ev.Fn.intro (fn := Tryz.f8) (body := (Tryz.f8).body.get!) (by kernel_rfl) (by kernel_rfl) (by kernel_rfl) (fun _ => rfl) (Nat.le_of_ble_eq_true (by kernel_rfl)) ?_; unfold Tryz.f8; simp only [Option.get!_some]
    repeat (first | (simp only [go_sem, Nat.reduceEqDiff, Nat.reduceAdd, Nat.reduceSub, Nat.reduceMul, Nat.reduceLeDiff, Nat.reduceLT, reduceIte, reduceCtorEq, Nat.succ_ne_zero, elemsC, Int.reduceToNat, Nat.reducePow]) | (simp (disch := (first | omega | (simp only [AL, List.length_map]; omega))) only [AR, AL, ifT, ifF, take_all, List.length_cons, List.length_nil, Int.reduceToNat, Int.reducePow, Nat.reducePow]) | (refine wk_intro (by kernel_rfl) ?_) | (refine vf_of (by first | exact bg) ?_))
set_option maxHeartbeats 1000000 in
theorem brise_in (hv : RatA (ratV s N D) x 3) (hw : RatA (ratV t M E) y 3) (h1 : N.length ≤ 3) (h2 : D.length ≤ 3) (h3 : M.length ≤ 3) (h4 : E.length ≤ 3) (hP : P ≤ 80) : Go.Ev.Fn CX 8 [ratV s N D, ratV t M E, .int .i64 (P : Int)] (.bool true) := by
  have bg := law10_big2 s t N D M E (by omega) (by omega) (by omega) (by omega)
  rw [decide_eq_false (by omega)] at bg
  have kn := known10
  have cm := ref2_Cmp hv hw (by omega) (by omega) (by omega)
  by_cases gt : y < x
  · have e1 : decide (cmpR x y > 0) = true := by rw [cmpR_gt]; exact decide_eq_true gt
    clear hv hw gt
    generalize cmpR x y = c at *
    refine Go.Ev.Fn.intro (fn := Tryz.f8) (body := (Tryz.f8).body.get!) (by kernel_rfl) (by kernel_rfl) (by kernel_rfl) (fun _ => rfl) (Nat.le_of_ble_eq_true (by kernel_rfl)) ?_; unfold Tryz.f8; simp only [Option.get!_some]
    repeat (first | (simp only [go_sem, Nat.reduceEqDiff, Nat.reduceAdd, Nat.reduceSub, Nat.reduceMul, Nat.reduceLeDiff, Nat.reduceLT, reduceIte, reduceCtorEq, Nat.succ_ne_zero, elemsC, Int.reduceToNat, Nat.reducePow, e1]) | (simp (disch := (first | omega | (simp only [AL, List.length_map]; omega))) only [AR, AL, ifT, ifF, take_all, List.length_cons, List.length_nil, Int.reduceToNat, Int.reducePow, Nat.reducePow, e1]) | (refine wk_intro (by kernel_rfl) ?_) | (refine vf_of (by first | exact bg | exact cm) ?_))
  have e1 : decide (cmpR x y > 0) = false := by rw [cmpR_gt]; exact decide_eq_false gt
  have le := Rat.not_lt.1 gt
  by_cases fx : x < -8 ∨ 8 < x
  · have f1 := bell_PhiFar (pI := (P : Int)) hv fx
    have fr := ref10_Far hv (by omega) (by omega) fx
    obtain ⟨a, b, ok, f2⟩ : ∃ a b : Rat, ∃ ok : Bool, Go.Ev.Fn CX 40 [ratV t M E, .int .i64 (P : Int)] (.tup [ballR a b, .bool ok]) := by
      by_cases fy : y < -8 ∨ 8 < y
      · exact ⟨_, _, _, bell_PhiFar (pI := (P : Int)) hw fy⟩
      · obtain ⟨a, b, f, -⟩ := phi_told (P := P) hw (Rat.not_lt.1 fun h => fy (.inl h)) (Rat.not_lt.1 fun h => fy (.inr h)) (by omega)
        exact ⟨a, b, true, f⟩
    clear hv hw fx gt le
    generalize cmpR x y = c at *
    generalize (0 : Rat) = z0 at *
    refine Go.Ev.Fn.intro (fn := Tryz.f8) (body := (Tryz.f8).body.get!) (by kernel_rfl) (by kernel_rfl) (by kernel_rfl) (fun _ => rfl) (Nat.le_of_ble_eq_true (by kernel_rfl)) ?_; unfold Tryz.f8; simp only [Option.get!_some]
    repeat (first | (simp only [go_sem, Nat.reduceEqDiff, Nat.reduceAdd, Nat.reduceSub, Nat.reduceMul, Nat.reduceLeDiff, Nat.reduceLT, reduceIte, reduceCtorEq, Nat.succ_ne_zero, elemsC, Int.reduceToNat, Nat.reducePow, e1, Bool.not_false]) | (simp (disch := (first | omega | (simp only [AL, List.length_map]; omega))) only [AR, AL, ifT, ifF, take_all, List.length_cons, List.length_nil, Int.reduceToNat, Int.reducePow, Nat.reducePow, e1, Bool.not_false]) | (refine wk_intro (by kernel_rfl) ?_) | (refine vf_of (by first | exact bg | exact cm | exact f1 | exact f2 | exact fr | exact kn) ?_))
  have x1 : -8 ≤ x := Rat.not_lt.1 fun h => fx (.inl h)
  have x2 : x ≤ 8 := Rat.not_lt.1 fun h => fx (.inr h)
  obtain ⟨a, b, f1, z1, z2, S1⟩ := phi_told (P := P) hv x1 x2 (by omega)
  by_cases fy : y < -8 ∨ 8 < y
  · have f2 := bell_PhiFar (pI := (P : Int)) hw fy
    have fr := ref10_Far hw (by omega) (by omega) fy
    have fr0 := ref10_nigh hv (by omega) (by omega) x1 x2
    clear hv hw fx fy gt le x1 x2 S1
    generalize cmpR x y = c at *
    generalize (0 : Rat) = z0 at *
    refine Go.Ev.Fn.intro (fn := Tryz.f8) (body := (Tryz.f8).body.get!) (by kernel_rfl) (by kernel_rfl) (by kernel_rfl) (fun _ => rfl) (Nat.le_of_ble_eq_true (by kernel_rfl)) ?_; unfold Tryz.f8; simp only [Option.get!_some]
    repeat (first | (simp only [go_sem, Nat.reduceEqDiff, Nat.reduceAdd, Nat.reduceSub, Nat.reduceMul, Nat.reduceLeDiff, Nat.reduceLT, reduceIte, reduceCtorEq, Nat.succ_ne_zero, elemsC, Int.reduceToNat, Nat.reducePow, e1, Bool.not_true, Bool.not_false]) | (simp (disch := (first | omega | (simp only [AL, List.length_map]; omega))) only [AR, AL, ifT, ifF, take_all, List.length_cons, List.length_nil, Int.reduceToNat, Int.reducePow, Nat.reducePow, e1, Bool.not_true, Bool.not_false]) | (refine wk_intro (by kernel_rfl) ?_) | (refine vf_of (by first | exact bg | exact cm | exact f1 | exact f2 | exact fr0 | exact fr | exact kn) ?_))
  · have y1 : -8 ≤ y := Rat.not_lt.1 fun h => fy (.inl h)
    have y2 : y ≤ 8 := Rat.not_lt.1 fun h => fy (.inr h)
    obtain ⟨c', d, f2, z3, z4, S2⟩ := phi_told (P := P) hw y1 y2 (by omega)
    obtain ⟨k, k1, k2, sd⟩ := ref4_SideLe z1 z2 z3 z4 (by omega) (by omega) (by omega) (phiS_rises le x1 y2 S1 S2)
    clear hv hw fx fy gt le x1 x2 S1 S2 y1 y2
    generalize cmpR x y = c at *
    refine Go.Ev.Fn.intro (fn := Tryz.f8) (body := (Tryz.f8).body.get!) (by kernel_rfl) (by kernel_rfl) (by kernel_rfl) (fun _ => rfl) (Nat.le_of_ble_eq_true (by kernel_rfl)) ?_; unfold Tryz.f8; simp only [Option.get!_some]
    repeat (first | (simp only [go_sem, Nat.reduceEqDiff, Nat.reduceAdd, Nat.reduceSub, Nat.reduceMul, Nat.reduceLeDiff, Nat.reduceLT, reduceIte, reduceCtorEq, Nat.succ_ne_zero, elemsC, Int.reduceToNat, Nat.reducePow, e1, Bool.not_true]) | (simp (disch := (first | omega | (simp only [AL, List.length_map]; omega))) only [AR, AL, ifT, ifF, take_all, List.length_cons, List.length_nil, Int.reduceToNat, Int.reducePow, Nat.reducePow, e1, Bool.not_true]) | (refine wk_intro (by kernel_rfl) ?_) | (refine vf_of (by first | exact bg | exact cm | exact f1 | exact f2 | exact sd | exact kn) ?_))
end
set_option maxRecDepth 100000 in
theorem brise_law (ss0 : List SV) (sh0 : ShpT Tryz.prog 6 24 ss0) (ss1 : List SV) (sh1 : ShpT Tryz.prog 6 24 ss1) (p : Int) (w2 : (Lit.int .i64 p).wf = true) :
    Go.Ev.Fn CX 8 [.agg ss0, .agg ss1, .int .i64 p] (.bool true) := by
  obtain ⟨s, N, D, rfl, hN, hD, lN, lD⟩ := shp_rat (n := 3) sh0
  obtain ⟨t, M, E, rfl, hM, hE, lM, lE⟩ := shp_rat (n := 3) sh1
  have r1 := wf_int64E w2
  have mx : maxLen ≤ 9223372036854775807 := by decide
  by_cases c : (3 < N.length ∨ 3 < D.length ∨ 3 < M.length ∨ 3 < E.length) ∨ p < 0 ∨ 80 < p
  · exact brise_out (Nat.le_trans lN mx) (Nat.le_trans lD mx) (Nat.le_trans lM mx) (Nat.le_trans lE mx) r1 c
  obtain ⟨c1, c2, c3, c4, c5, c6⟩ : N.length ≤ 3 ∧ D.length ≤ 3 ∧ M.length ≤ 3 ∧ E.length ≤ 3 ∧ 0 ≤ p ∧ p ≤ 80 := by omega
  obtain ⟨P, rfl⟩ : ∃ P : Nat, p = (P : Int) := ⟨p.toNat, by omega⟩
  exact brise_in ⟨s, N, D, rfl, hN, hD, c1, c2, rfl⟩ ⟨t, M, E, rfl, hM, hE, c3, c4, rfl⟩ c1 c2 c3 c4 (by omega)
end Go.Proofs.YtemnjalaincijaaGreat
