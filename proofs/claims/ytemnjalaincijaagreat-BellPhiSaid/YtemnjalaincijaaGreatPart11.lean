/- Part 11 of the proof: the evaluator, contracts of functions and their plain laws (joined by program). No condition. -/
import Derived.Test.YtemnjalaincijaaGreatPart10
set_option linter.unusedVariables false
set_option linter.unusedSimpArgs false
set_option maxRecDepth 100000
namespace Go.Proofs.YtemnjalaincijaaGreat
open Go.Ev
section
variable {z : Rat} {P : Nat} {pI : Int}
theorem bell_ErfE (hz : szR z 3) (h0 : 0 < z) (h8 : z ≤ 8) (hpI : (pI ≤ 0 ∧ P = 0) ∨ pI = (P : Int)) (hP : P ≤ 104) :
    ∃ l h r1 r2 : Rat, l ≤ h ∧ szR l 400 ∧ szR h 400 ∧ (h - l) * p2 P ≤ 1 ∧ 0 ≤ r1 ∧ r1 ≤ r2 ∧ r1 * r1 ≤ 1 * (SQ * SQ) ∧ 1 * (SQ * SQ) ≤ r2 * r2 ∧ (∀ r, r1 ≤ r → r ≤ r2 → ∃ s0, ∀ L, s0 ≤ L → l ≤ arV z (z * z * 2) (z * z) r L + arV z (z * z * 2) (z * z) r L ∧ arV z (z * z * 2) (z * z) r L + arV z (z * z * 2) (z * z) r L ≤ h) ∧ (∀ v, RatA v z 3 → Go.Ev.Fn CX 44 [v, .int .i64 pI] (.tup [ballR l h, .bool true])) ∧ (∀ v, RatA v (-z) 3 → Go.Ev.Fn CX 44 [v, .int .i64 pI] (.tup [ballR (-h) (-l), .bool true])) := by
  have g1 : -8 ≤ z := by grind
  have g2 : -8 ≤ -z := by grind
  have g3 : -z ≤ 8 := by grind
  have g4 : ¬ z = 0 := by grind
  have g5 : ¬ -z = 0 := by grind
  obtain ⟨S1, S2, r1, r2, fs, s1, s2, s3, a0, a1, a2', a3, sE⟩ := bell_shareE (many := 1) (w := P + 128) (by omega) (by omega) (by omega) (by omega)
  obtain ⟨A, B, a1', a2, gap, ae, fa⟩ := bell_areaE (many := 2) (w := P + 128) hz (Rat.le_of_lt h0) h8 (by omega) (by omega) (by omega) (by omega) s1 s2 s3
  obtain ⟨K, hK⟩ : ∃ K : Nat, K = 10040 := ⟨_, rfl⟩
  have e40 : 2 ^ (P + 128 + 120) * 2 < 2 ^ (P + 128 + K) := by
    rw [← Nat.pow_succ]; exact Nat.pow_lt_pow_right (by omega) (by omega)
  rw [hK] at e40
  have lB := lim_len_p2k a2
  have lA := lim_len_mono a1'
  have sm := fix_Add (a := A) (b := B) (c := A) (d := B) (by omega) (by omega) (by omega) (by omega)
  have dbl : B + B < 2 ^ (P + 128 + 10040) := Nat.lt_of_le_of_lt (show B + B ≤ 2 ^ (P + 128 + 120) * 2 from by rw [Nat.mul_two]; exact Nat.add_le_add a2 a2) e40
  obtain ⟨l, h, t1, t2, t3, t4, t5, t6, ft⟩ := told_span (A := A + A) (B := B + B) (w := P + 128) (p := P + 2) (Nat.add_le_add a1' a1') dbl (by omega) (by omega)
  have thin := told_thin (A := A + A) (B := B + B) (w := P + 128) (p := P) (by omega) (by
    have : 2 ^ 121 ≤ 2 ^ (P + 128 - (P + 2)) := Nat.pow_le_pow_right (by omega) (by omega)
    rw [show (2 : Nat) ^ 121 = 2 ^ 120 + 2 ^ 120 from rfl] at this
    generalize 2 ^ 120 = K1 at *
    clear dbl e40
    omega)
  rw [← t5, ← t6] at thin
  have ve : ∀ r, r1 ≤ r → r ≤ r2 → ∃ s0, ∀ L, s0 ≤ L → l ≤ arV z (z * z * 2) (z * z) r L + arV z (z * z * 2) (z * z) r L ∧ arV z (z * z * 2) (z * z) r L + arV z (z * z * 2) (z * z) r L ≤ h := by
    intro r q1 q2
    obtain ⟨s0, hs⟩ := ae r (sE r q1 q2)
    refine ⟨s0, fun L hL => ?_⟩
    have g := hs L hL
    rw [if_neg (by decide), show ((2 : Nat) : Rat) = 2 from rfl] at g
    have e := told_in (w := P + 128) (q := P + 2) (by omega) (enc_add g g)
    rw [← t5, ← t6] at e
    exact e
  rw [show ((1 : Nat) : Rat) = 1 from rfl] at a2' a3
  clear ae sE gap e40 hK a2 dbl
  have hh := bell_held hpI (show P ≤ 200 by omega)
  have ng := ball_Neg t3 t4 (by omega) (by omega)
  obtain ⟨n1, n2⟩ := num_neg_iff h0
  rw [show ((P + 128 : Nat) : Int) = (P : Int) + 128 from rfl] at fs fa ft
  rw [show ((P + 2 : Nat) : Int) = (P : Int) + 2 from rfl] at ft
  refine ⟨l, h, r1, r2, t1, t3, t4, thin, a0, a1, a2', a3, ve, fun v hv => ?_, fun v hv => ?_⟩
  · have fr := bell_nigh hv (by omega) (by omega) g1 h8
    have nm := rat_Norm hv (by omega)
    have zr := rat_Zero hv (by omega) (by omega)
    rw [decide_eq_false g4] at zr
    have fa1 := fa z (.inl rfl)
    have erz : rv z = ratV false (lim z.num.natAbs) (lim z.den) := by show ratV (decide (z.num < 0)) _ _ = _; rw [n1]
    rw [erz] at nm fa1
    clear fa ng n2 hz h0 h8 t1 t2 t3 t4 t5 t6 thin ve a0 a1 a2' a3 a1' s1 s2 s3 g1 g2 g3 g4 g5
    obtain ⟨s, n, d, rfl, -⟩ := hv
    generalize A + A = A2 at *
    generalize B + B = B2 at *
    refine Go.Ev.Fn.intro (fn := Tryz.f44) (body := (Tryz.f44).body.get!) (by kernel_rfl) (by kernel_rfl) (by kernel_rfl) (fun _ => rfl) (Nat.le_of_ble_eq_true (by kernel_rfl)) ?_; unfold Tryz.f44; simp only [Option.get!_some]
    repeat (first | (simp only [go_sem, Nat.reduceEqDiff, Nat.reduceAdd, Nat.reduceSub, Nat.reduceMul, Nat.reduceLeDiff, Nat.reduceLT, reduceIte, reduceCtorEq, Nat.succ_ne_zero, elemsC, Int.reduceToNat, Nat.reducePow]) | (simp (disch := (first | omega | (simp only [AL, List.length_map]; omega))) only [AR, AL, ifT, ifF, take_all, List.length_cons, List.length_nil, Int.reduceToNat, Int.reducePow, Nat.reducePow]) | (refine wk_intro (by kernel_rfl) ?_) | (refine vp_draw (id := 2) (l := []) (by kernel_rfl) ?_) | (refine vp_draw (id := 5) (l := []) (by kernel_rfl) ?_) | (refine vf_of (by first | exact fr | exact zr | exact nm | exact hh | exact fs | exact fa1 | exact sm | exact ft) ?_))
  · have fr := bell_nigh hv (by omega) (by omega) g2 g3
    have nm := rat_Norm hv (by omega)
    have zr := rat_Zero hv (by omega) (by omega)
    rw [decide_eq_false g5] at zr
    have fa1 := fa (-z) (.inr rfl)
    have erz : rv (-z) = ratV true (lim (-z).num.natAbs) (lim (-z).den) := by show ratV (decide ((-z).num < 0)) _ _ = _; rw [n2]
    rw [erz] at nm fa1
    clear fa n1 hz h0 h8 t1 t2 t3 t4 t5 t6 thin ve a0 a1 a2' a3 a1' s1 s2 s3 g1 g2 g3 g4 g5
    obtain ⟨s, n, d, rfl, -⟩ := hv
    generalize A + A = A2 at *
    generalize B + B = B2 at *
    generalize -h = mh at *
    generalize -l = ml at *
    refine Go.Ev.Fn.intro (fn := Tryz.f44) (body := (Tryz.f44).body.get!) (by kernel_rfl) (by kernel_rfl) (by kernel_rfl) (fun _ => rfl) (Nat.le_of_ble_eq_true (by kernel_rfl)) ?_; unfold Tryz.f44; simp only [Option.get!_some]
    repeat (first | (simp only [go_sem, Nat.reduceEqDiff, Nat.reduceAdd, Nat.reduceSub, Nat.reduceMul, Nat.reduceLeDiff, Nat.reduceLT, reduceIte, reduceCtorEq, Nat.succ_ne_zero, elemsC, Int.reduceToNat, Nat.reducePow]) | (simp (disch := (first | omega | (simp only [AL, List.length_map]; omega))) only [AR, AL, ifT, ifF, take_all, List.length_cons, List.length_nil, Int.reduceToNat, Int.reducePow, Nat.reducePow]) | (refine wk_intro (by kernel_rfl) ?_) | (refine vp_draw (id := 2) (l := []) (by kernel_rfl) ?_) | (refine vp_draw (id := 5) (l := []) (by kernel_rfl) ?_) | (refine vf_of (by first | exact fr | exact zr | exact nm | exact hh | exact fs | exact fa1 | exact sm | exact ft | exact ng) ?_))
theorem bell_DensityE (hz : szR z 3) (h1 : -8 ≤ z) (h8 : z ≤ 8) (hpI : (pI ≤ 0 ∧ P = 0) ∨ pI = (P : Int)) (hP : P ≤ 104) :
    ∃ l h r1 r2 : Rat, l ≤ h ∧ szR l 400 ∧ szR h 400 ∧ (h - l) * p2 P ≤ 1 ∧ 0 ≤ r1 ∧ r1 ≤ r2 ∧ r1 * r1 ≤ 2 * (SQ * SQ) ∧ 2 * (SQ * SQ) ≤ r2 * r2 ∧ (∀ r, r1 ≤ r → r ≤ r2 → ∃ s0, ∀ L, s0 ≤ L → l ≤ evX (-(z * z / 2)) L * (1 / r) ∧ evX (-(z * z / 2)) L * (1 / r) ≤ h) ∧ ∀ y v, y = z ∨ y = -z → RatA v y 3 → Go.Ev.Fn CX 46 [v, .int .i64 pI] (.tup [ballR l h, .bool true]) := by
  obtain ⟨q0, q64⟩ := sq_bd2 h1 h8
  obtain ⟨b1, b2⟩ := half_bd q0 q64
  have zq := szR_mul hz hz (by omega)
  have zn : szR (-(z * z / 2)) 7 := szR_neg (szR_mono (szR_div zq two_len (by omega) (by omega)) (by omega))
  have ny : ∀ y, y = z ∨ y = -z → -8 ≤ y ∧ y ≤ 8 ∧ szR y 3 ∧ y * y = z * z := by
    intro y hy
    refine ⟨?_, ?_, ?_, sq_same hy⟩
    · rcases hy with rfl | rfl
      · exact h1
      · grind
    · rcases hy with rfl | rfl
      · exact h8
      · grind
    · rcases hy with rfl | rfl
      · exact hz
      · exact szR_neg hz
  obtain ⟨S1, S2, r1, r2, fs, s1, s2, s3, a0, a1, a2, a3, sE⟩ := bell_shareE (many := 2) (w := P + 128) (by omega) (by omega) (by omega) (by omega)
  obtain ⟨F1, F2, f1, f3, f2, ff, sf, ef⟩ := bell_fall (w := P + 128) (RatA_rv zn) (by omega) (by omega) b1 b2 (den_le zn (by omega)) (by omega)
  have P2 : 2 ^ 8 ≤ 2 ^ (P + 128) := Nat.pow_le_pow_right (by omega) (by omega)
  have e2 : 2 ^ (P + 128 + 2) = 2 ^ (P + 128) * 4 := Nat.pow_add _ _ _
  have e3 : 2 ^ (P + 131) = 2 ^ (P + 128) * 8 := by rw [show P + 131 = P + 128 + 3 by omega, Nat.pow_add]
  have e4 : 2 ^ (P + 130) = 2 ^ (P + 128) * 4 := by rw [show P + 130 = P + 128 + 2 by omega, Nat.pow_add]
  have lF2 := lim_len_pw (n := F2) (w := P + 130) (by omega)
  have lF1 := lim_len_mono f1
  have lS2 := lim_len_pw (n := S2) (w := P + 131) (by omega)
  have lS1 := lim_len_mono s1
  have mu := fix_Mul (a := F1) (b := F2) (c := S1) (d := S2) (w := P + 128) (by omega) (by omega) (by omega) (by omega) (by omega) (by omega)
  have u1 : F1 * S1 / 2 ^ (P + 128) ≤ F2 * S2 / 2 ^ (P + 128) + 1 := Nat.le_succ_of_le (Nat.div_le_div_right (Nat.mul_le_mul f1 s1))
  have u2 : F2 * S2 / 2 ^ (P + 128) + 1 < 2 ^ (P + 128 + 10040) := by
    have a : F2 * S2 / 2 ^ (P + 128) ≤ 2 ^ (P + 128) * 8 := by
      refine (Nat.div_le_iff_le_mul (by omega)).2 ?_
      have b := Nat.mul_le_mul (show F2 ≤ 2 * 2 ^ (P + 128) by omega) (show S2 ≤ 4 * 2 ^ (P + 128) by omega)
      have e : 2 * 2 ^ (P + 128) * (4 * 2 ^ (P + 128)) = 2 ^ (P + 128) * 8 * 2 ^ (P + 128) := by generalize 2 ^ (P + 128) = y; grind
      omega
    have c : 2 ^ (P + 128) * 16 ≤ 2 ^ (P + 128 + 10040) := by
      rw [show (16 : Nat) = 2 ^ 4 from rfl, ← Nat.pow_add]
      exact Nat.pow_le_pow_right (by omega) (by omega)
    omega
  obtain ⟨l, h, t1, t2, t3, t4, t5, t6, ft⟩ := told_span (w := P + 128) (p := P + 2) u1 u2 (by omega) (by omega)
  obtain ⟨-, -, u3⟩ := mulS (w := P + 128) (α := 2) (β := 2) (γ := 2) (δ := 8) f1 s1 (by omega) s2 f3 s3
  have thin := told_thin (w := P + 128) (p := P) (by omega) (show F2 * S2 / 2 ^ (P + 128) + 1 ≤ F1 * S1 / 2 ^ (P + 128) + 2 ^ (P + 128 - (P + 2)) from Nat.le_trans u3 (Nat.add_le_add_left (Nat.le_trans (show 2 * 2 + 2 * 8 + 2 ≤ 2 ^ 10 by decide) (Nat.pow_le_pow_right (by omega) (by omega))) _))
  rw [← t5, ← t6] at thin
  have ve : ∀ r, r1 ≤ r → r ≤ r2 → ∃ s0, ∀ L, s0 ≤ L → l ≤ evX (-(z * z / 2)) L * (1 / r) ∧ evX (-(z * z / 2)) L * (1 / r) ≤ h := by
    intro r q1 q2
    refine ⟨sf, fun L hL => ?_⟩
    have e := told_in (w := P + 128) (q := P + 2) (by omega) (enc_mul (ef L hL) (sE r q1 q2))
    rw [← t5, ← t6] at e
    exact e
  rw [show ((2 : Nat) : Rat) = 2 from rfl] at a2 a3
  clear sE ef u3
  have hh := bell_held hpI (show P ≤ 200 by omega)
  have i2 := rat_Int (-2) (by omega)
  have dv := rat_Div (RatA_rv zq) (RatA_rv (int_szR (n := -2) (by omega))) (by omega) (by omega) (by omega)
  rw [m2_div, decide_eq_true (show ¬ ((-2 : Int) : Rat) = 0 by decide)] at dv
  rw [show ((P + 128 : Nat) : Int) = (P : Int) + 128 from rfl] at fs ff mu ft
  rw [show ((P + 2 : Nat) : Int) = (P : Int) + 2 from rfl] at ft
  refine ⟨l, h, r1, r2, t1, t3, t4, thin, a0, a1, a2, a3, ve, fun y v hy hv => ?_⟩
  obtain ⟨y1, y2, zy, yy⟩ := ny y hy
  have fr := bell_nigh hv (by omega) (by omega) y1 y2
  have m1 := rat_Mul hv hv (by omega) (by omega) (by omega)
  rw [yy] at m1
  clear ny hy y1 y2 zy yy q0 q64 b1 b2 zq zn P2 e2 e3 e4 u1 u2 s1 s2 s3 f2 f3 t1 t2 t3 t4 t5 t6 thin ve a0 a1 a2 a3
  obtain ⟨s, n, d, rfl, -⟩ := hv
  generalize F1 * S1 / 2 ^ (P + 128) = U1 at *
  generalize F2 * S2 / 2 ^ (P + 128) + 1 = U2 at *
  generalize -(z * z / 2) = nz at *
  generalize z * z = zz at *
  refine Go.Ev.Fn.intro (fn := Tryz.f46) (body := (Tryz.f46).body.get!) (by kernel_rfl) (by kernel_rfl) (by kernel_rfl) (fun _ => rfl) (Nat.le_of_ble_eq_true (by kernel_rfl)) ?_; unfold Tryz.f46; simp only [Option.get!_some]
  repeat (first | (simp only [go_sem, Nat.reduceEqDiff, Nat.reduceAdd, Nat.reduceSub, Nat.reduceMul, Nat.reduceLeDiff, Nat.reduceLT, reduceIte, reduceCtorEq, Nat.succ_ne_zero, elemsC, Int.reduceToNat, Nat.reducePow]) | (simp (disch := (first | omega | (simp only [AL, List.length_map]; omega))) only [AR, AL, ifT, ifF, take_all, List.length_cons, List.length_nil, Int.reduceToNat, Int.reducePow, Nat.reducePow]) | (refine wk_intro (by kernel_rfl) ?_) | (refine vf_of (by first | exact fr | exact hh | exact m1 | exact i2 | exact dv | exact ff | exact fs | exact mu | exact ft) ?_))
end
end Go.Proofs.YtemnjalaincijaaGreat
namespace Go.Proofs.YtemnjalaincijaaGreat
open Go.Ev
section
variable {v : SV} {z : Rat} {w p : Nat} {neg : Bool}
def erV (neg : Bool) (z r : Rat) (L : Nat) : Rat := if neg then -(arV z (z * z * 2) (z * z) r L + arV z (z * z * 2) (z * z) r L) else arV z (z * z * 2) (z * z) r L + arV z (z * z * 2) (z * z) r L
theorem ref10_Erf (hv : RatA v (if neg then -z else z) 3) (h0 : 0 ≤ z) (h8 : z ≤ 8) (hp : p ≤ 180) :
    ∃ c d r1 r2 : Rat, Go.Ev.Fn CX 45 [v, .int .i64 (p : Int)] (.tup [ballR c d, .bool true]) ∧ szR c 600 ∧ szR d 600 ∧ 0 ≤ r1 ∧ 0 ≤ r2 ∧ r1 * r1 ≤ 1 * (SQ * SQ) ∧ 1 * (SQ * SQ) ≤ r2 * r2 ∧ ∀ r, r1 ≤ r → r ≤ r2 → ∃ t, ∀ L, t ≤ L → c ≤ erV neg z r L ∧ erV neg z r L ≤ d := by
  obtain ⟨w, hw, hW, hwi⟩ : ∃ w : Nat, w = p + 20 ∧ (∀ Q : Nat → Prop, Q (w + 150) → Q (p + 170)) ∧ (p : Int) + 20 + 150 = ((p + 170 : Nat) : Int) := ⟨p + 20, rfl, fun Q h => h, by omega⟩
  obtain ⟨q0, q64⟩ := sq_bd h0 h8
  have zv := szR_of hv (by omega)
  have mu := ref2_Mul hv hv (by omega) (by omega) (by omega)
  have zq := szR_mul zv zv (by omega)
  rw [neg_sq] at mu zq
  have i2 := ref2_Int 2 (by omega)
  have mu2 := ref2_Mul (RatA_rv zq) (RatA_rv (int_szR (n := 2) (by omega))) (by omega) (by omega) (by omega)
  have zs := szR_mul zq (int_szR (n := 2) (by omega)) (by omega)
  rw [show ((2 : Int) : Rat) = 2 from rfl] at i2 mu2 zs
  obtain ⟨C1, C2, r1, r2, fr, c12, lC, a0, a1, a2, a3, ec⟩ := ref10_root (n := 1) (w := p + 170) (.inl rfl) (by omega) (by omega)
  have of := ref4_OftenN (a := C1) (b := C2) (n := 2) (Nat.le_trans (lim_len_mono c12) (by omega)) (by omega) (by omega)
  have l2 : (lim 2).length ≤ 1 := lim_len_one (by decide)
  have lC2 := lim_len_mul (a := C2) (b := 2)
  obtain ⟨A, B, fa, ab, lB, ea⟩ := ref10_area (w := p + 170) hv (by omega) (by omega) (RatA_rv zs) (by omega) (by omega) h0 h8 (show 0 ≤ z * z * 2 by clear ec; grind) (show z * z * 2 ≤ 128 by clear ec; grind) (Nat.mul_le_mul_right 2 c12) (by omega) (by omega) (by omega)
  have bk := ref4_BackS (neg := neg) (a := A) (b := B) (n := 150) ab (by omega) (by omega) (by omega)
  have o12 := div_le_cdv (d := 2 ^ 150) (Nat.two_pow_pos 150) ab
  have lO := lim_len_mono (cdv_self B (Nat.two_pow_pos 150))
  have en : ∀ r, r1 ≤ r → r ≤ r2 → ∃ t, ∀ L, t ≤ L → EncZ (p + 20) (sLo neg (A / 2 ^ 150) (cdv B (2 ^ 150))) (sHi neg (A / 2 ^ 150) (cdv B (2 ^ 150))) (erV neg z r L) := by
    intro r g1 g2
    obtain ⟨t, ht⟩ := ea _ (enc_oftenN (ec r g1 g2))
    refine ⟨t, fun L hL => ?_⟩
    have e0 : ∀ W, W = p + 170 → p + 20 + 150 = W := fun W h => by omega
    have e1 := ht L hL
    have e := enc_backN (w := p + 20) (n := 150) (by rw [e0 _ rfl]; exact e1)
    have q : z * evX (-(z * z * 2 * mkRat 1 2)) L * (1 / r * 2) * sk (z * z * 2) 3 L = arV z (z * z * 2) (z * z) r L + arV z (z * z * 2) (z * z) r L := by
      unfold arV
      have h2 : z * z * 2 * mkRat 1 2 = z * z := by
        have hh : (1 / 2 : Rat) * 2 = 1 := by decide +kernel
        rw [half_mk]; grind
      rw [h2]; grind
    rw [q] at e
    exact encS neg e
  rw [show ((1 : Nat) : Rat) = 1 from rfl] at a2 a3
  have lp := lim_len_p2k (n := 2 ^ (p + 20)) (w := p + 20) (Nat.le_refl _)
  generalize A / 2 ^ 150 = O1 at *
  generalize cdv B (2 ^ 150) = O2 at *
  have lA : (lim (sLo neg O1 O2).natAbs).length ≤ 500 := Nat.le_trans (lim_len_mono (sLo_abs neg o12)) (by omega)
  have lA2 : (lim (sHi neg O1 O2).natAbs).length ≤ 500 := Nat.le_trans (lim_len_mono (sHi_abs neg o12)) (by omega)
  have bl := ref4_Ball (a := sLo neg O1 O2) (b := sHi neg O1 O2) (by omega) (by omega) (p + 20) (by omega)
  refine ⟨mkRat (sLo neg O1 O2) (2 ^ (p + 20)), mkRat (sHi neg O1 O2) (2 ^ (p + 20)), r1, r2, ?_, szR_Z (L := 600) (by omega) (by omega) (by omega), szR_Z (L := 600) (by omega) (by omega) (by omega), a0, a1, a2, a3, fun r g1 g2 => ?_⟩
  rotate_left
  · obtain ⟨t, ht⟩ := en r g1 g2
    exact ⟨t, fun L hL => mkZ_in (ht L hL)⟩
  have fr10 := ref10_nigh hv (by omega) (by omega) (neg_bd neg h0 h8).1 (neg_bd neg h0 h8).2
  have ho := ref10_Hold (p := p) (by omega)
  rw [show ((p + 20 : Nat) : Int) = (p : Int) + 20 from rfl] at bl
  clear en ea ec q0 q64 a0 a1 a2 a3 zq zs h0 h8 o12 ab zv hW hw c12
  obtain ⟨s1, n1, d1, rfl, -⟩ := hv
  generalize z * z * 2 = z2 at *
  generalize z * z = zz at *
  generalize mkRat (sLo neg O1 O2) (2 ^ (p + 20)) = q1 at *
  generalize mkRat (sHi neg O1 O2) (2 ^ (p + 20)) = q2 at *
  refine Go.Ev.Fn.intro (fn := Tryz.f45) (body := (Tryz.f45).body.get!) (by kernel_rfl) (by kernel_rfl) (by kernel_rfl) (fun _ => rfl) (Nat.le_of_ble_eq_true (by kernel_rfl)) ?_; unfold Tryz.f45; simp only [Option.get!_some]
  repeat (first | (simp only [go_sem, Nat.reduceEqDiff, Nat.reduceAdd, Nat.reduceSub, Nat.reduceMul, Nat.reduceLeDiff, Nat.reduceLT, reduceIte, reduceCtorEq, Nat.succ_ne_zero, elemsC, Int.reduceToNat, Nat.reducePow, hwi]) | (simp (disch := (first | omega | (simp only [AL, List.length_map]; omega))) only [AR, AL, ifT, ifF, take_all, List.length_cons, List.length_nil, Int.reduceToNat, Int.reducePow, Nat.reducePow, hwi]) | (refine wk_intro (by kernel_rfl) ?_) | (refine vp_draw (id := 5) (l := []) (by kernel_rfl) ?_) | (refine vf_of (by first | exact fr10 | exact ho | exact mu | exact i2 | exact mu2 | exact fr | exact of | exact fa | exact bk | exact bl) ?_))
theorem ref10_ErfFar {pI : Int} (hv : RatA v z 3) (h : z < -8 ∨ 8 < z) : Go.Ev.Fn CX 45 [v, .int .i64 pI] (.tup [ballR 0 0, .bool false]) := by
  have fr := ref10_Far hv (by omega) (by omega) h
  have i0 := ref2_Int 0 (by omega)
  have o := ref4_Of (RatA_rv (int_szR (n := 0) (by omega))) (by omega)
  rw [show ((0 : Int) : Rat) = 0 from rfl] at i0 o
  clear h
  obtain ⟨s, n, d, rfl, -⟩ := hv
  refine Go.Ev.Fn.intro (fn := Tryz.f45) (body := (Tryz.f45).body.get!) (by kernel_rfl) (by kernel_rfl) (by kernel_rfl) (fun _ => rfl) (Nat.le_of_ble_eq_true (by kernel_rfl)) ?_; unfold Tryz.f45; simp only [Option.get!_some]
  repeat (first | (simp only [go_sem, Nat.reduceEqDiff, Nat.reduceAdd, Nat.reduceSub, Nat.reduceMul, Nat.reduceLeDiff, Nat.reduceLT, reduceIte, reduceCtorEq, Nat.succ_ne_zero, elemsC, Int.reduceToNat, Nat.reducePow]) | (simp (disch := (first | omega | (simp only [AL, List.length_map]; omega))) only [AR, AL, ifT, ifF, take_all, List.length_cons, List.length_nil, Int.reduceToNat, Int.reducePow, Nat.reducePow]) | (refine wk_intro (by kernel_rfl) ?_) | (refine vp_draw (id := 5) (l := []) (by kernel_rfl) ?_) | (refine vf_of (by first | exact fr | exact i0 | exact o) ?_))
theorem ref10_DensityFar {pI : Int} (hv : RatA v z 3) (h : z < -8 ∨ 8 < z) : Go.Ev.Fn CX 47 [v, .int .i64 pI] (.tup [ballR 0 0, .bool false]) := by
  have fr := ref10_Far hv (by omega) (by omega) h
  have i0 := ref2_Int 0 (by omega)
  have o := ref4_Of (RatA_rv (int_szR (n := 0) (by omega))) (by omega)
  rw [show ((0 : Int) : Rat) = 0 from rfl] at i0 o
  clear h
  obtain ⟨s, n, d, rfl, -⟩ := hv
  refine Go.Ev.Fn.intro (fn := Tryz.f47) (body := (Tryz.f47).body.get!) (by kernel_rfl) (by kernel_rfl) (by kernel_rfl) (fun _ => rfl) (Nat.le_of_ble_eq_true (by kernel_rfl)) ?_; unfold Tryz.f47; simp only [Option.get!_some]
  repeat (first | (simp only [go_sem, Nat.reduceEqDiff, Nat.reduceAdd, Nat.reduceSub, Nat.reduceMul, Nat.reduceLeDiff, Nat.reduceLT, reduceIte, reduceCtorEq, Nat.succ_ne_zero, elemsC, Int.reduceToNat, Nat.reducePow]) | (simp (disch := (first | omega | (simp only [AL, List.length_map]; omega))) only [AR, AL, ifT, ifF, take_all, List.length_cons, List.length_nil, Int.reduceToNat, Int.reducePow, Nat.reducePow]) | (refine wk_intro (by kernel_rfl) ?_) | (refine vp_draw (id := 5) (l := []) (by kernel_rfl) ?_) | (refine vf_of (by first | exact fr | exact i0 | exact o) ?_))
theorem ref10_Density (hv : RatA v z 3) (h1 : -8 ≤ z) (h8 : z ≤ 8) (hp0 : 20 ≤ p) (hp : p ≤ 180) :
    ∃ c d r1 r2 : Rat, Go.Ev.Fn CX 47 [v, .int .i64 (p : Int)] (.tup [ballR c d, .bool true]) ∧ szR c 600 ∧ szR d 600 ∧ 0 ≤ r1 ∧ 0 ≤ r2 ∧ r1 * r1 ≤ 2 * (SQ * SQ) ∧ 2 * (SQ * SQ) ≤ r2 * r2 ∧ ∀ r, r1 ≤ r → r ≤ r2 → ∃ t, ∀ L, t ≤ L → c ≤ evX (-(z * z / 2)) L * (1 / r) ∧ evX (-(z * z / 2)) L * (1 / r) ≤ d := by
  obtain ⟨q0, q64⟩ := sq_bd2 h1 h8
  have zv := szR_of hv (by omega)
  have mu := ref2_Mul hv hv (by omega) (by omega) (by omega)
  have zq := szR_mul zv zv (by omega)
  have hf := ref10_half (RatA_rv zq) (by omega) (by omega)
  have zh := szR_mul zq half_len (by omega)
  have ng := ref2_Neg (RatA_rv zh) (by omega) (by omega)
  obtain ⟨n1, n2⟩ := half_nn q0 (show z * z ≤ 128 by grind)
  obtain ⟨E1, E2, e1, e2, fe, t1, ee⟩ := ref6_Iv (w := p + 30) (RatA_rv (szR_neg zh)) (by omega) (by omega) n1 n2 (by omega)
  have lE := lim_len_p2k e2
  clear e2
  obtain ⟨C1, C2, r1, r2, fr, c12, lC, a0, a1, a2, a3, ec⟩ := ref10_root (n := 2) (w := p + 30) (.inr rfl) (by omega) (by omega)
  have pr := ref4_ProdN (a := E1) (b := E2) (c := C1) (d := C2) (w := p + 30) e1 c12 (by omega) (by omega) (by omega) (by omega)
  have P : 0 < 2 ^ (p + 30) := Nat.pow_pos (by omega)
  have m12 : E1 * C1 / 2 ^ (p + 30) ≤ cdv (E2 * C2) (2 ^ (p + 30)) := div_le_cdv P (Nat.mul_le_mul e1 c12)
  have lm := Nat.le_trans (lim_len_mono (cdv_self (E2 * C2) P)) lim_len_mul
  have h2 : z * z * mkRat 1 2 = z * z / 2 := by rw [half_mk, Rat.div_def, Rat.div_def]; grind
  have em : ∀ r, r1 ≤ r → r ≤ r2 → ∀ L, t1 ≤ L → Enc (p + 30) (E1 * C1 / 2 ^ (p + 30)) (cdv (E2 * C2) (2 ^ (p + 30))) (evX (-(z * z / 2)) L * (1 / r)) := by
    intro r g1 g2 L hL
    have e := ee L hL
    rw [h2] at e
    exact enc_prodN e (ec r g1 g2)
  generalize E1 * C1 / 2 ^ (p + 30) = M1 at *
  generalize cdv (E2 * C2) (2 ^ (p + 30)) = M2 at *
  have bk := ref4_BackN (a := M1) (b := M2) (n := 10) (Nat.le_trans (lim_len_mono m12) (by omega)) (by omega) (by omega) (by omega)
  have o12 := div_le_cdv (d := 2 ^ 10) (Nat.two_pow_pos 10) m12
  have lO := lim_len_mono (cdv_self M2 (Nat.two_pow_pos 10))
  have eb : ∀ r, r1 ≤ r → r ≤ r2 → ∀ L, t1 ≤ L → Enc (p + 20) (M1 / 2 ^ 10) (cdv M2 (2 ^ 10)) (evX (-(z * z / 2)) L * (1 / r)) := fun r g1 g2 L hL => enc_backN (w := p + 20) (n := 10) (em r g1 g2 L hL)
  have lp := lim_len_p2k (n := 2 ^ (p + 20)) (w := p + 20) (Nat.le_refl _)
  generalize M1 / 2 ^ 10 = O1 at *
  generalize cdv M2 (2 ^ 10) = O2 at *
  have lO1 := lim_len_mono o12
  have bl := ref4_Ball (a := (O1 : Int)) (b := (O2 : Int)) (by rw [Int.natAbs_natCast]; omega) (by rw [Int.natAbs_natCast]; omega) (p + 20) (by omega)
  rw [ivN_eq] at bl
  rw [show ((2 : Nat) : Rat) = 2 from rfl] at a2 a3
  refine ⟨mkRat (O1 : Int) (2 ^ (p + 20)), mkRat (O2 : Int) (2 ^ (p + 20)), r1, r2, ?_, szR_nat (L := 600) (by omega) (by omega) (by omega), szR_nat (L := 600) (by omega) (by omega) (by omega), a0, a1, a2, a3, fun r g1 g2 => ⟨t1, fun L hL => mk_in (eb r g1 g2 L hL)⟩⟩
  have fr10 := ref10_nigh hv (by omega) (by omega) h1 h8
  have ho := ref10_Hold (p := p) (by omega)
  rw [show ((p + 20 : Nat) : Int) = (p : Int) + 20 from rfl] at bl
  have hwi : (p : Int) + 20 + 10 = ((p + 30 : Nat) : Int) := by omega
  clear eb em ee ec q0 q64 a0 a1 a2 a3 zq zh zv h1 h8 n1 n2 o12 m12 c12 e1 h2
  obtain ⟨s1, n1, d1, rfl, -⟩ := hv
  generalize -(z * z * mkRat 1 2) = y2 at *
  generalize z * z * mkRat 1 2 = y1 at *
  generalize z * z = zz at *
  generalize mkRat (O1 : Int) (2 ^ (p + 20)) = q1 at *
  generalize mkRat (O2 : Int) (2 ^ (p + 20)) = q2 at *
  refine Go.Ev.Fn.intro (fn := Tryz.f47) (body := (Tryz.f47).body.get!) (by kernel_rfl) (by kernel_rfl) (by kernel_rfl) (fun _ => rfl) (Nat.le_of_ble_eq_true (by kernel_rfl)) ?_; unfold Tryz.f47; simp only [Option.get!_some]
  repeat (first | (simp only [go_sem, Nat.reduceEqDiff, Nat.reduceAdd, Nat.reduceSub, Nat.reduceMul, Nat.reduceLeDiff, Nat.reduceLT, reduceIte, reduceCtorEq, Nat.succ_ne_zero, elemsC, Int.reduceToNat, Nat.reducePow, hwi]) | (simp (disch := (first | omega | (simp only [AL, List.length_map]; omega))) only [AR, AL, ifT, ifF, take_all, List.length_cons, List.length_nil, Int.reduceToNat, Int.reducePow, Nat.reducePow, hwi]) | (refine wk_intro (by kernel_rfl) ?_) | (refine vp_draw (id := 5) (l := []) (by kernel_rfl) ?_) | (refine vf_of (by first | exact fr10 | exact ho | exact mu | exact hf | exact ng | exact fe | exact fr | exact pr | exact bk | exact bl) ?_))
end
section
variable {v : SV} {z : Rat} {p : Int} {P : Nat} {s : Bool} {N D : List Nat}
theorem erf_balls (hv : RatA v z 3) (h1 : -8 ≤ z) (h8 : z ≤ 8) (hpI : (p ≤ 0 ∧ P = 0) ∨ p = (P : Int)) (hP : P ≤ 104) :
    ∃ a b c d : Rat, Go.Ev.Fn CX 44 [v, .int .i64 p] (.tup [ballR a b, .bool true]) ∧ Go.Ev.Fn CX 45 [v, .int .i64 ((P : Int) + 20)] (.tup [ballR c d, .bool true]) ∧
      szR a 500 ∧ szR b 500 ∧ szR c 600 ∧ szR d 600 ∧ a ≤ b ∧ c ≤ b ∧ a ≤ d ∧ (b - a) * p2 P ≤ 1 := by
  have zz := szR_of hv (by omega)
  by_cases e : z = 0
  · subst e
    obtain ⟨c, d, r1, r2, f2, z1, z2, a0, a1, a2, a3, en⟩ := ref10_Erf (neg := false) (z := 0) (p := P + 20) hv (by decide) (by decide) (by omega)
    rw [show ((P + 20 : Nat) : Int) = (P : Int) + 20 from rfl] at f2
    obtain ⟨t, ht⟩ := en r1 Rat.le_refl (sq_mono a0 a1 (Rat.le_trans a2 a3))
    have k := ht t (Nat.le_refl _)
    have e0 : erV false 0 r1 t = 0 := by unfold erV; rw [if_neg (by decide)]; unfold arV; rw [Rat.zero_mul, Rat.zero_mul, Rat.zero_mul, Rat.add_zero]
    rw [e0] at k
    have z0 : szR 0 500 := szR_zero (by omega)
    refine ⟨0, 0, c, d, bell_Erf0 hv, f2, z0, z0, z1, z2, Rat.le_refl, k.1, k.2, ?_⟩
    rw [Rat.sub_self, Rat.zero_mul]; decide
  rcases Rat.le_total (a := 0) (b := z) with g | g
  · obtain ⟨l, h, r1, r2, t1, t2, t3, thin, a0, a1, a2, a3, en, f1, -⟩ := bell_ErfE zz (by grind) h8 hpI hP
    obtain ⟨c, d, q1, q2, f2, z1, z2, b0, b1, b2, b3, en2⟩ := ref10_Erf (neg := false) (p := P + 20) hv g h8 (by omega)
    rw [show ((P + 20 : Nat) : Int) = (P : Int) + 20 from rfl] at f2
    obtain ⟨r, k1, k2, k3, k4⟩ := root_common a0 a1 a2 a3 b0 b1 b2 b3
    obtain ⟨s1, hs1⟩ := en r k1 k2
    obtain ⟨s2, hs2⟩ := en2 r k3 k4
    have m1 := hs1 (s1 + s2) (by omega)
    have m2 := hs2 (s1 + s2) (by omega)
    unfold erV at m2
    rw [if_neg (by decide)] at m2
    exact ⟨_, _, c, d, f1 v hv, f2, szR_mono t2 (by omega), szR_mono t3 (by omega), z1, z2, t1, Rat.le_trans m2.1 m1.2, Rat.le_trans m1.1 m2.2, thin⟩
  · have zn := szR_neg zz
    have hv' : RatA v (- -z) 3 := by rw [Rat.neg_neg]; exact hv
    obtain ⟨l, h, r1, r2, t1, t2, t3, thin, a0, a1, a2, a3, en, -, f1⟩ := bell_ErfE (z := -z) zn (by grind) (by grind) hpI hP
    obtain ⟨c, d, q1, q2, f2, z1, z2, b0, b1, b2, b3, en2⟩ := ref10_Erf (neg := true) (z := -z) (p := P + 20) hv' (by grind) (by grind) (by omega)
    rw [show ((P + 20 : Nat) : Int) = (P : Int) + 20 from rfl] at f2
    obtain ⟨r, k1, k2, k3, k4⟩ := root_common a0 a1 a2 a3 b0 b1 b2 b3
    obtain ⟨s1, hs1⟩ := en r k1 k2
    obtain ⟨s2, hs2⟩ := en2 r k3 k4
    have m1 := hs1 (s1 + s2) (by omega)
    have m2 := hs2 (s1 + s2) (by omega)
    unfold erV at m2
    rw [if_pos rfl] at m2
    generalize arV (-z) (-z * -z * 2) (-z * -z) r (s1 + s2) = V at *
    refine ⟨_, _, c, d, f1 v hv', f2, szR_mono (szR_neg t3) (by omega), szR_mono (szR_neg t2) (by omega), z1, z2, ?_, ?_, ?_, ?_⟩ <;> clear f1 f2 en en2 hs1 hs2
    · grind
    · grind
    · grind
    · rw [show -l - -h = h - l by grind]; exact thin
theorem dens_balls (hv : RatA v z 3) (h1 : -8 ≤ z) (h8 : z ≤ 8) (hpI : (p ≤ 0 ∧ P = 0) ∨ p = (P : Int)) (hP : P ≤ 104) :
    ∃ a b c d : Rat, Go.Ev.Fn CX 46 [v, .int .i64 p] (.tup [ballR a b, .bool true]) ∧ Go.Ev.Fn CX 47 [v, .int .i64 ((P : Int) + 20)] (.tup [ballR c d, .bool true]) ∧
      szR a 500 ∧ szR b 500 ∧ szR c 600 ∧ szR d 600 ∧ a ≤ b ∧ c ≤ b ∧ a ≤ d ∧ (b - a) * p2 P ≤ 1 := by
  have zz := szR_of hv (by omega)
  obtain ⟨l, h, r1, r2, t1, t2, t3, thin, a0, a1, a2, a3, en, f1⟩ := bell_DensityE zz h1 h8 hpI hP
  obtain ⟨c, d, q1, q2, f2, z1, z2, b0, b1, b2, b3, en2⟩ := ref10_Density (p := P + 20) hv h1 h8 (by omega) (by omega)
  rw [show ((P + 20 : Nat) : Int) = (P : Int) + 20 from rfl] at f2
  obtain ⟨r, k1, k2, k3, k4⟩ := root_common a0 a1 a2 a3 b0 b1 b2 b3
  obtain ⟨s1, hs1⟩ := en r k1 k2
  obtain ⟨s2, hs2⟩ := en2 r k3 k4
  have m1 := hs1 (s1 + s2) (by omega)
  have m2 := hs2 (s1 + s2) (by omega)
  exact ⟨_, _, c, d, f1 z v (.inl rfl) hv, f2, szR_mono t2 (by omega), szR_mono t3 (by omega), z1, z2, t1, Rat.le_trans m2.1 m1.2, Rat.le_trans m1.1 m2.2, thin⟩
theorem berf_out (hN : N.length ≤ 9223372036854775807) (hD : D.length ≤ 9223372036854775807) (hp : -9223372036854775808 ≤ p ∧ p < 9223372036854775808)
    (h : 3 < N.length ∨ 3 < D.length ∨ 100 < p) : Go.Ev.Fn CX 11 [ratV s N D, .int .i64 p] (.bool true) := by
  have bg := law10_big s N D hN hD
  by_cases c0 : 3 < N.length ∨ 3 < D.length
  · rw [show (decide (3 < N.length) || decide (3 < D.length)) = true by rw [← Bool.decide_or]; exact decide_eq_true c0] at bg
    refine Go.Ev.Fn.intro (fn := Tryz.f11) (body := (Tryz.f11).body.get!) (by kernel_rfl) (by kernel_rfl) (by kernel_rfl) (fun _ => rfl) (Nat.le_of_ble_eq_true (by kernel_rfl)) ?_; unfold Tryz.f11; simp only [Option.get!_some]
    repeat (first | (simp only [go_sem, Nat.reduceEqDiff, Nat.reduceAdd, Nat.reduceSub, Nat.reduceMul, Nat.reduceLeDiff, Nat.reduceLT, reduceIte, reduceCtorEq, Nat.succ_ne_zero, elemsC, Int.reduceToNat, Nat.reducePow]) | (simp (disch := (first | omega | (simp only [AL, List.length_map]; omega))) only [AR, AL, ifT, ifF, take_all, List.length_cons, List.length_nil, Int.reduceToNat, Int.reducePow, Nat.reducePow]) | (refine wk_intro (by kernel_rfl) ?_) | (refine vf_of (by first | exact bg) ?_))
  · rw [show (decide (3 < N.length) || decide (3 < D.length)) = false by rw [← Bool.decide_or]; exact decide_eq_false c0] at bg
    have c1 : 100 < p := by omega
    refine Go.Ev.Fn.intro (fn := Tryz.f11) (body := (Tryz.f11).body.get!) (by kernel_rfl) (by kernel_rfl) (by kernel_rfl) (fun _ => rfl) (Nat.le_of_ble_eq_true (by kernel_rfl)) ?_; unfold Tryz.f11; simp only [Option.get!_some]
    repeat (first | (simp only [go_sem, Nat.reduceEqDiff, Nat.reduceAdd, Nat.reduceSub, Nat.reduceMul, Nat.reduceLeDiff, Nat.reduceLT, reduceIte, reduceCtorEq, Nat.succ_ne_zero, elemsC, Int.reduceToNat, Nat.reducePow]) | (simp (disch := (first | omega | (simp only [AL, List.length_map]; omega))) only [AR, AL, ifT, ifF, take_all, List.length_cons, List.length_nil, Int.reduceToNat, Int.reducePow, Nat.reducePow]) | (refine wk_intro (by kernel_rfl) ?_) | (refine vf_of (by first | exact bg) ?_))
set_option maxHeartbeats 1000000 in
theorem berf_far (hv : RatA (ratV s N D) z 3) (h1 : N.length ≤ 3) (h2 : D.length ≤ 3) (hp : -9223372036854775808 ≤ p ∧ p ≤ 100) (far : z < -8 ∨ 8 < z) : Go.Ev.Fn CX 11 [ratV s N D, .int .i64 p] (.bool true) := by
  have bg := law10_big s N D (by omega) (by omega)
  rw [decide_eq_false (by omega), decide_eq_false (by omega), Bool.or_false] at bg
  have kn := known10
  obtain ⟨P, hP⟩ : ∃ P : Int, (if (0 : Int) > p then (0 : Int) else p) = P := ⟨_, rfl⟩
  have hP2 : 0 ≤ P ∧ P ≤ 100 := by rw [← hP]; split <;> omega
  have f1 := bell_ErfFar (pI := p) hv far
  have f2 := ref10_ErfFar (pI := P + 20) hv far
  have f3 := bell_DensityFar (pI := p) hv far
  have f4 := ref10_DensityFar (pI := P + 20) hv far
  have fb : (!(false == false)) = false := rfl
  clear far hv
  generalize (0 : Rat) = zz at *
  refine Go.Ev.Fn.intro (fn := Tryz.f11) (body := (Tryz.f11).body.get!) (by kernel_rfl) (by kernel_rfl) (by kernel_rfl) (fun _ => rfl) (Nat.le_of_ble_eq_true (by kernel_rfl)) ?_; unfold Tryz.f11; simp only [Option.get!_some]
  repeat (first | (simp only [go_sem, Nat.reduceEqDiff, Nat.reduceAdd, Nat.reduceSub, Nat.reduceMul, Nat.reduceLeDiff, Nat.reduceLT, reduceIte, reduceCtorEq, Nat.succ_ne_zero, elemsC, Int.reduceToNat, Nat.reducePow, hP, fb, Bool.not_false]) | (simp (disch := (first | omega | (simp only [AL, List.length_map]; omega))) only [AR, AL, ifT, ifF, take_all, List.length_cons, List.length_nil, Int.reduceToNat, Int.reducePow, Nat.reducePow, hP, fb, Bool.not_false]) | (refine wk_intro (by kernel_rfl) ?_) | (refine vf_of (by first | exact bg | exact f1 | exact f2 | exact f3 | exact f4 | exact kn) ?_))
set_option maxHeartbeats 1000000 in
theorem berf_in (hv : RatA (ratV s N D) z 3) (h1 : N.length ≤ 3) (h2 : D.length ≤ 3) (hp : -9223372036854775808 ≤ p) (hpI : (p ≤ 0 ∧ P = 0) ∨ p = (P : Int)) (hP : P ≤ 100) (g1 : -8 ≤ z) (g2 : z ≤ 8) : Go.Ev.Fn CX 11 [ratV s N D, .int .i64 p] (.bool true) := by
  have bg := law10_big s N D (by omega) (by omega)
  rw [decide_eq_false (by omega), decide_eq_false (by omega), Bool.or_false] at bg
  have kn := known10
  obtain ⟨a, b, c, d, f1, f2, z1, z2, z3, z4, k1, k2, k3, k4⟩ := erf_balls hv g1 g2 hpI (by omega)
  obtain ⟨a', b', c', d', f3, f4, z1', z2', z3', z4', k1', k2', k3', k4'⟩ := dens_balls hv g1 g2 hpI (show P ≤ 104 by omega)
  have gd1 := ref4_Good hpI (by omega) z1 z2 z3 z4 (by omega) (by omega) (by omega) k1 k2 k3 k4
  have gd2 := ref4_Good hpI (by omega) z1' z2' z3' z4' (by omega) (by omega) (by omega) k1' k2' k3' k4'
  have hP' : (if (0 : Int) > p then (0 : Int) else p) = (P : Int) := by split <;> omega
  have fb : (!(true == true)) = false := rfl
  clear k1 k2 k3 k4 k1' k2' k3' k4' z1 z2 z3 z4 z1' z2' z3' z4' g1 g2 hv
  refine Go.Ev.Fn.intro (fn := Tryz.f11) (body := (Tryz.f11).body.get!) (by kernel_rfl) (by kernel_rfl) (by kernel_rfl) (fun _ => rfl) (Nat.le_of_ble_eq_true (by kernel_rfl)) ?_; unfold Tryz.f11; simp only [Option.get!_some]
  repeat (first | (simp only [go_sem, Nat.reduceEqDiff, Nat.reduceAdd, Nat.reduceSub, Nat.reduceMul, Nat.reduceLeDiff, Nat.reduceLT, reduceIte, reduceCtorEq, Nat.succ_ne_zero, elemsC, Int.reduceToNat, Nat.reducePow, hP', fb, Bool.not_true]) | (simp (disch := (first | omega | (simp only [AL, List.length_map]; omega))) only [AR, AL, ifT, ifF, take_all, List.length_cons, List.length_nil, Int.reduceToNat, Int.reducePow, Nat.reducePow, hP', fb, Bool.not_true]) | (refine wk_intro (by kernel_rfl) ?_) | (refine vf_of (by first | exact bg | exact f1 | exact f2 | exact f3 | exact f4 | exact gd1 | exact gd2 | exact kn) ?_))
end
set_option maxRecDepth 100000 in
theorem berf_law (ss0 : List SV) (sh0 : ShpT Tryz.prog 6 24 ss0) (p : Int) (w1 : (Lit.int .i64 p).wf = true) :
    Go.Ev.Fn CX 11 [.agg ss0, .int .i64 p] (.bool true) := by
  obtain ⟨s, N, D, rfl, hN, hD, lN, lD⟩ := shp_rat (n := 3) sh0
  have r1 := wf_int64E w1
  have mx : maxLen ≤ 9223372036854775807 := by decide
  by_cases c : 3 < N.length ∨ 3 < D.length ∨ 100 < p
  · exact berf_out (Nat.le_trans lN mx) (Nat.le_trans lD mx) r1 c
  have c1 : N.length ≤ 3 := Nat.not_lt.1 fun h => c (.inl h)
  have c2 : D.length ≤ 3 := Nat.not_lt.1 fun h => c (.inr (.inl h))
  obtain ⟨z, hv⟩ : ∃ x : Rat, RatA (ratV s N D) x 3 := ⟨_, s, N, D, rfl, hN, hD, c1, c2, rfl⟩
  by_cases far : z < -8 ∨ 8 < z
  · exact berf_far hv c1 c2 (by omega) far
  · exact berf_in (P := p.toNat) hv c1 c2 r1.1 (by omega) (by omega) (Rat.not_lt.1 fun h => far (.inl h)) (Rat.not_lt.1 fun h => far (.inr h))
end Go.Proofs.YtemnjalaincijaaGreat
