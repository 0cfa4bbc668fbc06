/- Part 11 of the proof: the evaluator, contracts of functions and their plain laws (joined by program). No condition. -/
import Derived.Test.YtemnjalaincijaaGreatPart10
/- bell: Density, Erf of a number and of its opposite; vernierlaw10.BellEven, in the evaluator. -/
namespace Go.Proofs.YtemnjalaincijaaGreat
set_option linter.unusedSimpArgs false
set_option linter.unusedVariables false
set_option maxRecDepth 8000
open Go.Ev
set_option linter.unusedVariables false
section
variable {z : Rat} {P : Nat} {pI : Int}
theorem m2_div {q : Rat} : q / ((-2 : Int) : Rat) = -(q / 2) := by
  have e : ((-2 : Int) : Rat) = -2 := rfl
  rw [e, Rat.div_def, Rat.div_def]
  have i : (-2 : Rat)⁻¹ = -(2 : Rat)⁻¹ := by decide +kernel
  rw [i]; grind
theorem half_bd {q : Rat} (h0 : 0 ≤ q) (h : q ≤ 64) : -64 ≤ -(q / 2) ∧ -(q / 2) ≤ 0 := by
  have hh : q / 2 * 2 = q := Rat.div_mul_cancel (by decide)
  generalize q / 2 = t at *
  constructor <;> grind
theorem sq_bd2 {z : Rat} (h1 : -8 ≤ z) (h2 : z ≤ 8) : 0 ≤ z * z ∧ z * z ≤ 64 := by
  rcases Rat.le_total (a := 0) (b := z) with g | g
  · exact sq_bd g h2
  · have a := sq_bd (z := -z) (by grind) (by grind)
    have e : -z * -z = z * z := by grind
    rw [e] at a; exact a
/-- The curve's height, of a number and of its opposite. -/
theorem bell_Density (hz : szR z 3) (h1 : -8 ≤ z) (h8 : z ≤ 8) (hpI : (pI ≤ 0 ∧ P = 0) ∨ pI = (P : Int)) (hP : P ≤ 96) :
    ∃ l h : Rat, l ≤ h ∧ szR l 400 ∧ szR h 400 ∧ ∀ y v, y = z ∨ y = -z → RatA v y 3 → Go.Ev.Fn CX 46 [v, .int .i64 pI] (.tup [ballR l h, .bool true]) := by
  obtain ⟨q0, q64⟩ := sq_bd2 h1 h8
  obtain ⟨b1, b2⟩ := half_bd q0 q64
  have zq := szR_mul hz hz (by omega)
  have zn : szR (-(z * z / 2)) 7 := szR_neg (szR_mono (szR_div zq two_len (by omega) (by omega)) (by omega))
  have ny : ∀ y, y = z ∨ y = -z → -8 ≤ y ∧ y ≤ 8 ∧ szR y 3 ∧ y * y = z * z := by
    intro y hy
    refine ⟨?_, ?_, ?_, sq_same hy⟩
    · rcases hy with rfl | rfl
      · exact h1
      · grind
    · rcases hy with rfl | rfl
      · exact h8
      · grind
    · rcases hy with rfl | rfl
      · exact hz
      · exact szR_neg hz
  obtain ⟨S1, S2, r1, r2, fs, s1, s2, -⟩ := bell_share (many := 2) (w := P + 128) (by omega) (by omega) (by omega) (by omega)
  obtain ⟨F1, F2, f1, -, f2, ff, -⟩ := bell_fall (w := P + 128) (RatA_rv zn) (by omega) (by omega) b1 b2 (den_le zn (by omega)) (by omega)
  have P2 : 2 ^ 8 ≤ 2 ^ (P + 128) := Nat.pow_le_pow_right (by omega) (by omega)
  have e2 : 2 ^ (P + 128 + 2) = 2 ^ (P + 128) * 4 := Nat.pow_add _ _ _
  have e3 : 2 ^ (P + 131) = 2 ^ (P + 128) * 8 := by rw [show P + 131 = P + 128 + 3 by omega, Nat.pow_add]
  have e4 : 2 ^ (P + 130) = 2 ^ (P + 128) * 4 := by rw [show P + 130 = P + 128 + 2 by omega, Nat.pow_add]
  have lF2 := lim_len_pw (n := F2) (w := P + 130) (by omega)
  have lF1 := lim_len_mono f1
  have lS2 := lim_len_pw (n := S2) (w := P + 131) (by omega)
  have lS1 := lim_len_mono s1
  have mu := fix_Mul (a := F1) (b := F2) (c := S1) (d := S2) (w := P + 128) (by omega) (by omega) (by omega) (by omega) (by omega) (by omega)
  have u1 : F1 * S1 / 2 ^ (P + 128) ≤ F2 * S2 / 2 ^ (P + 128) + 1 := Nat.le_succ_of_le (Nat.div_le_div_right (Nat.mul_le_mul f1 s1))
  have u2 : F2 * S2 / 2 ^ (P + 128) + 1 < 2 ^ (P + 128 + 10040) := by
    have a : F2 * S2 / 2 ^ (P + 128) ≤ 2 ^ (P + 128) * 8 := by
      refine (Nat.div_le_iff_le_mul (by omega)).2 ?_
      have b := Nat.mul_le_mul (show F2 ≤ 2 * 2 ^ (P + 128) by omega) (show S2 ≤ 4 * 2 ^ (P + 128) by omega)
      have e : 2 * 2 ^ (P + 128) * (4 * 2 ^ (P + 128)) = 2 ^ (P + 128) * 8 * 2 ^ (P + 128) := by generalize 2 ^ (P + 128) = y; grind
      omega
    have c : 2 ^ (P + 128) * 16 ≤ 2 ^ (P + 128 + 10040) := by
      rw [show (16 : Nat) = 2 ^ 4 from rfl, ← Nat.pow_add]
      exact Nat.pow_le_pow_right (by omega) (by omega)
    omega
  obtain ⟨l, h, t1, t2, t3, t4, -, -, ft⟩ := told_span (w := P + 128) (p := P + 2) u1 u2 (by omega) (by omega)
  have hh := bell_held hpI (show P ≤ 200 by omega)
  have i2 := rat_Int (-2) (by omega)
  have dv := rat_Div (RatA_rv zq) (RatA_rv (int_szR (n := -2) (by omega))) (by omega) (by omega) (by omega)
  rw [m2_div, decide_eq_true (show ¬ ((-2 : Int) : Rat) = 0 by decide)] at dv
  rw [show ((P + 128 : Nat) : Int) = (P : Int) + 128 from rfl] at fs ff mu ft
  rw [show ((P + 2 : Nat) : Int) = (P : Int) + 2 from rfl] at ft
  refine ⟨l, h, t1, t3, t4, fun y v hy hv => ?_⟩
  obtain ⟨y1, y2, zy, yy⟩ := ny y hy
  have fr := bell_nigh hv (by omega) (by omega) y1 y2
  have m1 := rat_Mul hv hv (by omega) (by omega) (by omega)
  rw [yy] at m1
  clear ny hy y1 y2 zy yy q0 q64 b1 b2 zq zn P2 e2 e3 e4 u1 u2 s2 f2 t1 t2 t3 t4
  obtain ⟨s, n, d, rfl, -⟩ := hv
  generalize F1 * S1 / 2 ^ (P + 128) = U1 at *
  generalize F2 * S2 / 2 ^ (P + 128) + 1 = U2 at *
  generalize -(z * z / 2) = nz at *
  generalize z * z = zz at *
  refine Go.Ev.Fn.intro (fn := Tryz.f46) (body := (Tryz.f46).body.get!) (by kernel_rfl) (by kernel_rfl) (by kernel_rfl) (fun _ => rfl) (Nat.le_of_ble_eq_true (by kernel_rfl)) ?_; unfold Tryz.f46; simp only [Option.get!_some]
  repeat (first | (simp only [go_sem, Nat.reduceEqDiff, Nat.reduceAdd, Nat.reduceSub, Nat.reduceMul, Nat.reduceLeDiff, Nat.reduceLT, reduceIte, reduceCtorEq, Nat.succ_ne_zero, elemsC, Int.reduceToNat, Nat.reducePow]) | (simp (disch := (first | omega | (simp only [AL, List.length_map]; omega))) only [AR, AL, ifT, ifF, take_all, List.length_cons, List.length_nil, Int.reduceToNat, Int.reducePow, Nat.reducePow]) | (refine wk_intro (by kernel_rfl) ?_) | (refine vf_of (by first | exact fr | exact hh | exact m1 | exact i2 | exact dv | exact ff | exact fs | exact mu | exact ft) ?_))
theorem bell_DensityFar {v : SV} (hv : RatA v z 3) (h : z < -8 ∨ 8 < z) : Go.Ev.Fn CX 46 [v, .int .i64 pI] (.tup [ballR 0 0, .bool false]) := by
  have fr := bell_far hv (by omega) (by omega) h
  have i0 := rat_Int 0 (by omega)
  have o := ball_Of (RatA_rv (int_szR (n := 0) (by omega))) (by omega)
  rw [show ((0 : Int) : Rat) = 0 from rfl] at i0 o
  clear h
  obtain ⟨s, n, d, rfl, -⟩ := hv
  refine Go.Ev.Fn.intro (fn := Tryz.f46) (body := (Tryz.f46).body.get!) (by kernel_rfl) (by kernel_rfl) (by kernel_rfl) (fun _ => rfl) (Nat.le_of_ble_eq_true (by kernel_rfl)) ?_; unfold Tryz.f46; simp only [Option.get!_some]
  repeat (first | (simp only [go_sem, Nat.reduceEqDiff, Nat.reduceAdd, Nat.reduceSub, Nat.reduceMul, Nat.reduceLeDiff, Nat.reduceLT, reduceIte, reduceCtorEq, Nat.succ_ne_zero, elemsC, Int.reduceToNat, Nat.reducePow]) | (simp (disch := (first | omega | (simp only [AL, List.length_map]; omega))) only [AR, AL, ifT, ifF, take_all, List.length_cons, List.length_nil, Int.reduceToNat, Int.reducePow, Nat.reducePow]) | (refine wk_intro (by kernel_rfl) ?_) | (refine vf_of (by first | exact fr | exact i0 | exact o) ?_))
/-- The area, of a number above 0 and of its opposite. -/
theorem bell_Erf (hz : szR z 3) (h0 : 0 < z) (h8 : z ≤ 8) (hpI : (pI ≤ 0 ∧ P = 0) ∨ pI = (P : Int)) (hP : P ≤ 96) :
    ∃ l h : Rat, l ≤ h ∧ szR l 400 ∧ szR h 400 ∧ (∀ v, RatA v z 3 → Go.Ev.Fn CX 44 [v, .int .i64 pI] (.tup [ballR l h, .bool true])) ∧ (∀ v, RatA v (-z) 3 → Go.Ev.Fn CX 44 [v, .int .i64 pI] (.tup [ballR (-h) (-l), .bool true])) := by
  have g1 : -8 ≤ z := by grind
  have g2 : -8 ≤ -z := by grind
  have g3 : -z ≤ 8 := by grind
  have g4 : ¬ z = 0 := by grind
  have g5 : ¬ -z = 0 := by grind
  obtain ⟨S1, S2, r1, r2, fs, s1, s2, -⟩ := bell_share (many := 1) (w := P + 128) (by omega) (by omega) (by omega) (by omega)
  obtain ⟨A, B, a1, a2, fa⟩ := bell_area (many := 2) (w := P + 128) hz (Rat.le_of_lt h0) h8 (by omega) (by omega) (by omega) (by omega) s1 s2
  have e40 : 2 ^ (P + 128 + 10030) * 2 ≤ 2 ^ (P + 128 + 10040) := by
    rw [← Nat.pow_succ]; exact Nat.pow_le_pow_right (by omega) (by omega)
  have lB := lim_len_pw a2
  have lA := lim_len_mono a1
  have sm := fix_Add (a := A) (b := B) (c := A) (d := B) (by omega) (by omega) (by omega) (by omega)
  obtain ⟨l, h, t1, t2, t3, t4, -, -, ft⟩ := told_span (A := A + A) (B := B + B) (w := P + 128) (p := P + 2) (by omega) (by omega) (by omega) (by omega)
  have hh := bell_held hpI (show P ≤ 200 by omega)
  have ng := ball_Neg t3 t4 (by omega) (by omega)
  obtain ⟨n1, n2⟩ := num_neg_iff h0
  rw [show ((P + 128 : Nat) : Int) = (P : Int) + 128 from rfl] at fs fa ft
  rw [show ((P + 2 : Nat) : Int) = (P : Int) + 2 from rfl] at ft
  refine ⟨l, h, t1, t3, t4, fun v hv => ?_, fun v hv => ?_⟩
  · have fr := bell_nigh hv (by omega) (by omega) g1 h8
    have nm := rat_Norm hv (by omega)
    have zr := rat_Zero hv (by omega) (by omega)
    rw [decide_eq_false g4] at zr
    have fa1 := fa z (.inl rfl)
    have erz : rv z = ratV false (lim z.num.natAbs) (lim z.den) := by show ratV (decide (z.num < 0)) _ _ = _; rw [n1]
    rw [erz] at nm fa1
    clear fa ng n2 hz h0 h8 t1 t2 t3 t4 e40 a1 a2 s1 s2 g1 g2 g3 g4 g5
    obtain ⟨s, n, d, rfl, -⟩ := hv
    generalize A + A = A2 at *
    generalize B + B = B2 at *
    refine Go.Ev.Fn.intro (fn := Tryz.f44) (body := (Tryz.f44).body.get!) (by kernel_rfl) (by kernel_rfl) (by kernel_rfl) (fun _ => rfl) (Nat.le_of_ble_eq_true (by kernel_rfl)) ?_; unfold Tryz.f44; simp only [Option.get!_some]
    repeat (first | (simp only [go_sem, Nat.reduceEqDiff, Nat.reduceAdd, Nat.reduceSub, Nat.reduceMul, Nat.reduceLeDiff, Nat.reduceLT, reduceIte, reduceCtorEq, Nat.succ_ne_zero, elemsC, Int.reduceToNat, Nat.reducePow]) | (simp (disch := (first | omega | (simp only [AL, List.length_map]; omega))) only [AR, AL, ifT, ifF, take_all, List.length_cons, List.length_nil, Int.reduceToNat, Int.reducePow, Nat.reducePow]) | (refine wk_intro (by kernel_rfl) ?_) | (refine vp_draw (id := 2) (l := []) (by kernel_rfl) ?_) | (refine vp_draw (id := 5) (l := []) (by kernel_rfl) ?_) | (refine vf_of (by first | exact fr | exact zr | exact nm | exact hh | exact fs | exact fa1 | exact sm | exact ft) ?_))
  · have fr := bell_nigh hv (by omega) (by omega) g2 g3
    have nm := rat_Norm hv (by omega)
    have zr := rat_Zero hv (by omega) (by omega)
    rw [decide_eq_false g5] at zr
    have fa1 := fa (-z) (.inr rfl)
    have erz : rv (-z) = ratV true (lim (-z).num.natAbs) (lim (-z).den) := by show ratV (decide ((-z).num < 0)) _ _ = _; rw [n2]
    rw [erz] at nm fa1
    clear fa n1 hz h0 h8 t1 t2 t3 t4 e40 a1 a2 s1 s2 g1 g2 g3 g4 g5
    obtain ⟨s, n, d, rfl, -⟩ := hv
    generalize A + A = A2 at *
    generalize B + B = B2 at *
    generalize -h = mh at *
    generalize -l = ml at *
    refine Go.Ev.Fn.intro (fn := Tryz.f44) (body := (Tryz.f44).body.get!) (by kernel_rfl) (by kernel_rfl) (by kernel_rfl) (fun _ => rfl) (Nat.le_of_ble_eq_true (by kernel_rfl)) ?_; unfold Tryz.f44; simp only [Option.get!_some]
    repeat (first | (simp only [go_sem, Nat.reduceEqDiff, Nat.reduceAdd, Nat.reduceSub, Nat.reduceMul, Nat.reduceLeDiff, Nat.reduceLT, reduceIte, reduceCtorEq, Nat.succ_ne_zero, elemsC, Int.reduceToNat, Nat.reducePow]) | (simp (disch := (first | omega | (simp only [AL, List.length_map]; omega))) only [AR, AL, ifT, ifF, take_all, List.length_cons, List.length_nil, Int.reduceToNat, Int.reducePow, Nat.reducePow]) | (refine wk_intro (by kernel_rfl) ?_) | (refine vp_draw (id := 2) (l := []) (by kernel_rfl) ?_) | (refine vp_draw (id := 5) (l := []) (by kernel_rfl) ?_) | (refine vf_of (by first | exact fr | exact zr | exact nm | exact hh | exact fs | exact fa1 | exact sm | exact ft | exact ng) ?_))
theorem bell_Erf0 {v : SV} (hv : RatA v 0 3) : Go.Ev.Fn CX 44 [v, .int .i64 pI] (.tup [ballR 0 0, .bool true]) := by
  have fr := bell_nigh hv (by omega) (by omega) (by decide +kernel) (by decide +kernel)
  have zr := rat_Zero hv (by omega) (by omega)
  rw [decide_eq_true rfl] at zr
  have i0 := rat_Int 0 (by omega)
  have o := ball_Of (RatA_rv (int_szR (n := 0) (by omega))) (by omega)
  rw [show ((0 : Int) : Rat) = 0 from rfl] at i0 o
  obtain ⟨s, n, d, rfl, -⟩ := hv
  refine Go.Ev.Fn.intro (fn := Tryz.f44) (body := (Tryz.f44).body.get!) (by kernel_rfl) (by kernel_rfl) (by kernel_rfl) (fun _ => rfl) (Nat.le_of_ble_eq_true (by kernel_rfl)) ?_; unfold Tryz.f44; simp only [Option.get!_some]
  repeat (first | (simp only [go_sem, Nat.reduceEqDiff, Nat.reduceAdd, Nat.reduceSub, Nat.reduceMul, Nat.reduceLeDiff, Nat.reduceLT, reduceIte, reduceCtorEq, Nat.succ_ne_zero, elemsC, Int.reduceToNat, Nat.reducePow]) | (simp (disch := (first | omega | (simp only [AL, List.length_map]; omega))) only [AR, AL, ifT, ifF, take_all, List.length_cons, List.length_nil, Int.reduceToNat, Int.reducePow, Nat.reducePow]) | (refine wk_intro (by kernel_rfl) ?_) | (refine vp_draw (id := 2) (l := []) (by kernel_rfl) ?_) | (refine vp_draw (id := 5) (l := []) (by kernel_rfl) ?_) | (refine vf_of (by first | exact fr | exact zr | exact i0 | exact o) ?_))
  rfl
theorem bell_ErfFar {v : SV} (hv : RatA v z 3) (h : z < -8 ∨ 8 < z) : Go.Ev.Fn CX 44 [v, .int .i64 pI] (.tup [ballR 0 0, .bool false]) := by
  have fr := bell_far hv (by omega) (by omega) h
  have i0 := rat_Int 0 (by omega)
  have o := ball_Of (RatA_rv (int_szR (n := 0) (by omega))) (by omega)
  rw [show ((0 : Int) : Rat) = 0 from rfl] at i0 o
  clear h
  obtain ⟨s, n, d, rfl, -⟩ := hv
  refine Go.Ev.Fn.intro (fn := Tryz.f44) (body := (Tryz.f44).body.get!) (by kernel_rfl) (by kernel_rfl) (by kernel_rfl) (fun _ => rfl) (Nat.le_of_ble_eq_true (by kernel_rfl)) ?_; unfold Tryz.f44; simp only [Option.get!_some]
  repeat (first | (simp only [go_sem, Nat.reduceEqDiff, Nat.reduceAdd, Nat.reduceSub, Nat.reduceMul, Nat.reduceLeDiff, Nat.reduceLT, reduceIte, reduceCtorEq, Nat.succ_ne_zero, elemsC, Int.reduceToNat, Nat.reducePow]) | (simp (disch := (first | omega | (simp only [AL, List.length_map]; omega))) only [AR, AL, ifT, ifF, take_all, List.length_cons, List.length_nil, Int.reduceToNat, Int.reducePow, Nat.reducePow]) | (refine wk_intro (by kernel_rfl) ?_) | (refine vp_draw (id := 2) (l := []) (by kernel_rfl) ?_) | (refine vp_draw (id := 5) (l := []) (by kernel_rfl) ?_) | (refine vf_of (by first | exact fr | exact i0 | exact o) ?_))
  rfl
/-- Of any number: height and area, and those of its opposite. -/
theorem bell_four {v : SV} (hv : RatA v z 3) (hP : P ≤ 96) :
    ∃ a b c d e f : Rat, ∃ ok : Bool, Go.Ev.Fn CX 46 [v, .int .i64 (P : Int)] (.tup [ballR a b, .bool ok]) ∧ Go.Ev.Fn CX 46 [rv (-z), .int .i64 (P : Int)] (.tup [ballR a b, .bool ok]) ∧
      Go.Ev.Fn CX 44 [v, .int .i64 (P : Int)] (.tup [ballR c d, .bool ok]) ∧ Go.Ev.Fn CX 44 [rv (-z), .int .i64 (P : Int)] (.tup [ballR e f, .bool ok]) ∧
      szR a 500 ∧ szR b 500 ∧ szR c 500 ∧ szR d 500 ∧ szR e 500 ∧ szR f 500 ∧ (ok = true → a ≤ b ∧ c ≤ d ∧ e = -d ∧ f = -c) ∧ (ok = false → z < -8 ∨ 8 < z) := by
  have zz := szR_of hv (by omega)
  have zn := szR_neg zz
  have z0 : szR 0 500 := szR_zero (by omega)
  by_cases far : z < -8 ∨ 8 < z
  · have far' : -z < -8 ∨ 8 < -z := by rcases far with h | h; exact .inr (by grind); exact .inl (by grind)
    exact ⟨0, 0, 0, 0, 0, 0, false, bell_DensityFar hv far, bell_DensityFar (RatA_rv zn) far', bell_ErfFar hv far, bell_ErfFar (RatA_rv zn) far', z0, z0, z0, z0, z0, z0, (fun h => by cases h), fun _ => far⟩
  have n1 : -8 ≤ z := Rat.not_lt.1 fun h => far (.inl h)
  have n2 : z ≤ 8 := Rat.not_lt.1 fun h => far (.inr h)
  obtain ⟨a, b, ab, za, zb, fd⟩ := bell_Density (P := P) (pI := (P : Int)) zz n1 n2 (.inr rfl) hP
  have fd1 := fd z v (.inl rfl) hv
  have fd2 := fd (-z) _ (.inr rfl) (RatA_rv zn)
  have za' := szR_mono za (show 400 ≤ 500 by omega)
  have zb' := szR_mono zb (show 400 ≤ 500 by omega)
  by_cases e : z = 0
  · subst e
    have hv' : RatA (rv (-0)) 0 3 := by rw [Rat.neg_zero]; exact RatA_rv (szR_zero (by omega))
    exact ⟨a, b, 0, 0, 0, 0, true, fd1, fd2, bell_Erf0 hv, bell_Erf0 hv', za', zb', z0, z0, z0, z0, (fun _ => ⟨ab, Rat.le_refl, by rw [Rat.neg_zero], by rw [Rat.neg_zero]⟩), fun h => by cases h⟩
  rcases Rat.le_total (a := 0) (b := z) with g | g
  · obtain ⟨l, h, t1, t2, t3, f1, f2⟩ := bell_Erf (P := P) (pI := (P : Int)) zz (by grind) n2 (.inr rfl) hP
    exact ⟨a, b, _, _, _, _, true, fd1, fd2, f1 v hv, f2 _ (RatA_rv zn), za', zb', szR_mono t2 (by omega), szR_mono t3 (by omega), szR_neg (szR_mono t3 (by omega)), szR_neg (szR_mono t2 (by omega)), (fun _ => ⟨ab, t1, rfl, rfl⟩), fun h => by cases h⟩
  · obtain ⟨l, h, t1, t2, t3, f1, f2⟩ := bell_Erf (z := -z) (P := P) (pI := (P : Int)) zn (by grind) (by grind) (.inr rfl) hP
    have hv' : RatA v (- -z) 3 := by rw [Rat.neg_neg]; exact hv
    exact ⟨a, b, _, _, _, _, true, fd1, fd2, f2 v hv', f1 _ (RatA_rv zn), za', zb', szR_neg (szR_mono t3 (by omega)), szR_neg (szR_mono t2 (by omega)), szR_mono t2 (by omega), szR_mono t3 (by omega), (fun _ => ⟨ab, by grind, by rw [Rat.neg_neg], by rw [Rat.neg_neg]⟩), fun h => by cases h⟩
end
theorem ref4_NegE {a b : Rat} {L : Nat} (ha : szR a L) (hb : szR b L) (hL1 : 1 ≤ L) (hL : L ≤ 100000) : Go.Ev.Fn CX 48 [ballR a b] (ballR (-b) (-a)) := by
  have n1 := ref2_Neg (RatA_rv ha) hL1 (by omega)
  have n2 := ref2_Neg (RatA_rv hb) hL1 (by omega)
  generalize -a = u at *
  generalize -b = w at *
  refine Go.Ev.Fn.intro (fn := Tryz.f48) (body := (Tryz.f48).body.get!) (by kernel_rfl) (by kernel_rfl) (by kernel_rfl) (fun _ => rfl) (Nat.le_of_ble_eq_true (by kernel_rfl)) ?_; unfold Tryz.f48; simp only [Option.get!_some]
  repeat (first | (simp only [go_sem, Nat.reduceEqDiff, Nat.reduceAdd, Nat.reduceSub, Nat.reduceMul, Nat.reduceLeDiff, Nat.reduceLT, reduceIte, reduceCtorEq, Nat.succ_ne_zero, elemsC, Int.reduceToNat, Nat.reducePow]) | (simp (disch := (first | omega | (simp only [AL, List.length_map]; omega))) only [AR, AL, ifT, ifF, take_all, List.length_cons, List.length_nil, Int.reduceToNat, Int.reducePow, Nat.reducePow]) | (refine wk_intro (by kernel_rfl) ?_) | (refine vp_draw (id := 1) (l := []) (by kernel_rfl) ?_) | (refine vf_of (by first | exact n2 | exact n1) ?_))
section
variable {z : Rat} {p : Int} {s : Bool} {n d : List Nat}
set_option maxHeartbeats 1000000 in
theorem beven_out (hn : n.length ≤ 9223372036854775807) (hd : d.length ≤ 9223372036854775807) (hp : -9223372036854775808 ≤ p ∧ p < 9223372036854775808)
    (h : 3 < n.length ∨ 3 < d.length ∨ p < 0 ∨ 80 < p) : Go.Ev.Fn CX 12 [ratV s n d, .int .i64 p] (.bool true) := by
  have bg := law10_big s n d hn hd
  by_cases c0 : 3 < n.length ∨ 3 < d.length
  · rw [show (decide (3 < n.length) || decide (3 < d.length)) = true by rw [← Bool.decide_or]; exact decide_eq_true c0] at bg
    refine Go.Ev.Fn.intro (fn := Tryz.f12) (body := (Tryz.f12).body.get!) (by kernel_rfl) (by kernel_rfl) (by kernel_rfl) (fun _ => rfl) (Nat.le_of_ble_eq_true (by kernel_rfl)) ?_; unfold Tryz.f12; simp only [Option.get!_some]
    repeat (first | (simp only [go_sem, Nat.reduceEqDiff, Nat.reduceAdd, Nat.reduceSub, Nat.reduceMul, Nat.reduceLeDiff, Nat.reduceLT, reduceIte, reduceCtorEq, Nat.succ_ne_zero, elemsC, Int.reduceToNat, Nat.reducePow]) | (simp (disch := (first | omega | (simp only [AL, List.length_map]; omega))) only [AR, AL, ifT, ifF, take_all, List.length_cons, List.length_nil, Int.reduceToNat, Int.reducePow, Nat.reducePow]) | (refine wk_intro (by kernel_rfl) ?_) | (refine vp_draw (id := 9) (l := []) (by kernel_rfl) ?_) | (refine vf_of (by first | exact bg) ?_))
  rw [show (decide (3 < n.length) || decide (3 < d.length)) = false by rw [← Bool.decide_or]; exact decide_eq_false c0] at bg
  by_cases c1 : p < 0
  · refine Go.Ev.Fn.intro (fn := Tryz.f12) (body := (Tryz.f12).body.get!) (by kernel_rfl) (by kernel_rfl) (by kernel_rfl) (fun _ => rfl) (Nat.le_of_ble_eq_true (by kernel_rfl)) ?_; unfold Tryz.f12; simp only [Option.get!_some]
    repeat (first | (simp only [go_sem, Nat.reduceEqDiff, Nat.reduceAdd, Nat.reduceSub, Nat.reduceMul, Nat.reduceLeDiff, Nat.reduceLT, reduceIte, reduceCtorEq, Nat.succ_ne_zero, elemsC, Int.reduceToNat, Nat.reducePow]) | (simp (disch := (first | omega | (simp only [AL, List.length_map]; omega))) only [AR, AL, ifT, ifF, take_all, List.length_cons, List.length_nil, Int.reduceToNat, Int.reducePow, Nat.reducePow]) | (refine wk_intro (by kernel_rfl) ?_) | (refine vp_draw (id := 9) (l := []) (by kernel_rfl) ?_) | (refine vf_of (by first | exact bg) ?_))
  · have c2 : 80 < p := by omega
    refine Go.Ev.Fn.intro (fn := Tryz.f12) (body := (Tryz.f12).body.get!) (by kernel_rfl) (by kernel_rfl) (by kernel_rfl) (fun _ => rfl) (Nat.le_of_ble_eq_true (by kernel_rfl)) ?_; unfold Tryz.f12; simp only [Option.get!_some]
    repeat (first | (simp only [go_sem, Nat.reduceEqDiff, Nat.reduceAdd, Nat.reduceSub, Nat.reduceMul, Nat.reduceLeDiff, Nat.reduceLT, reduceIte, reduceCtorEq, Nat.succ_ne_zero, elemsC, Int.reduceToNat, Nat.reducePow]) | (simp (disch := (first | omega | (simp only [AL, List.length_map]; omega))) only [AR, AL, ifT, ifF, take_all, List.length_cons, List.length_nil, Int.reduceToNat, Int.reducePow, Nat.reducePow]) | (refine wk_intro (by kernel_rfl) ?_) | (refine vp_draw (id := 9) (l := []) (by kernel_rfl) ?_) | (refine vf_of (by first | exact bg) ?_))
set_option maxHeartbeats 1000000 in
theorem beven_in {P : Nat} (hv : RatA (ratV s n d) z 3) (hn : n.length ≤ 3) (hd : d.length ≤ 3) (hP : P ≤ 80) : Go.Ev.Fn CX 12 [ratV s n d, .int .i64 (P : Int)] (.bool true) := by
  have bg := law10_big s n d (by omega) (by omega)
  rw [decide_eq_false (by omega), decide_eq_false (by omega), Bool.or_false] at bg
  obtain ⟨a, b, c, d', e, f, ok, f1, f2, f3, f4, z1, z2, z3, z4, z5, z6, g1, g2⟩ := bell_four (P := P) hv (by omega)
  have ng := ref2_Neg hv (by omega) (by omega)
  have kn := known10
  cases ok with
  | false =>
    have fr := ref10_Far hv (by omega) (by omega) (g2 rfl)
    clear g1 g2
    generalize -z = y at *
    refine Go.Ev.Fn.intro (fn := Tryz.f12) (body := (Tryz.f12).body.get!) (by kernel_rfl) (by kernel_rfl) (by kernel_rfl) (fun _ => rfl) (Nat.le_of_ble_eq_true (by kernel_rfl)) ?_; unfold Tryz.f12; simp only [Option.get!_some]
    repeat (first | (simp only [go_sem, Nat.reduceEqDiff, Nat.reduceAdd, Nat.reduceSub, Nat.reduceMul, Nat.reduceLeDiff, Nat.reduceLT, reduceIte, reduceCtorEq, Nat.succ_ne_zero, elemsC, Int.reduceToNat, Nat.reducePow, Bool.not_false]) | (simp (disch := (first | omega | (simp only [AL, List.length_map]; omega))) only [AR, AL, ifT, ifF, take_all, List.length_cons, List.length_nil, Int.reduceToNat, Int.reducePow, Nat.reducePow, Bool.not_false]) | (refine wk_intro (by kernel_rfl) ?_) | (refine vp_draw (id := 9) (l := []) (by kernel_rfl) ?_) | (refine vf_of (by first | exact bg | exact f1 | exact ng | exact f2 | exact f3 | exact f4 | exact fr | exact kn) ?_))
  | true =>
    obtain ⟨k1, k2, rfl, rfl⟩ := g1 rfl
    have sd := ref4_Side0 z1 z2 z1 z2 (by omega) (by omega) (by omega) k1 k1
    have nb := ref4_NegE z5 z6 (by omega) (by omega)
    rw [Rat.neg_neg, Rat.neg_neg] at nb
    have sd2 := ref4_Side0 z3 z4 z3 z4 (by omega) (by omega) (by omega) k2 k2
    clear g1 g2 k1 k2
    generalize -z = y at *
    generalize -c = mc at *
    generalize -d' = md at *
    refine Go.Ev.Fn.intro (fn := Tryz.f12) (body := (Tryz.f12).body.get!) (by kernel_rfl) (by kernel_rfl) (by kernel_rfl) (fun _ => rfl) (Nat.le_of_ble_eq_true (by kernel_rfl)) ?_; unfold Tryz.f12; simp only [Option.get!_some]
    repeat (first | (simp only [go_sem, Nat.reduceEqDiff, Nat.reduceAdd, Nat.reduceSub, Nat.reduceMul, Nat.reduceLeDiff, Nat.reduceLT, reduceIte, reduceCtorEq, Nat.succ_ne_zero, elemsC, Int.reduceToNat, Nat.reducePow, Bool.not_true]) | (simp (disch := (first | omega | (simp only [AL, List.length_map]; omega))) only [AR, AL, ifT, ifF, take_all, List.length_cons, List.length_nil, Int.reduceToNat, Int.reducePow, Nat.reducePow, Bool.not_true]) | (refine wk_intro (by kernel_rfl) ?_) | (refine vp_draw (id := 9) (l := []) (by kernel_rfl) ?_) | (refine vf_of (by first | exact bg | exact f1 | exact ng | exact f2 | exact f3 | exact f4 | exact sd | exact nb | exact sd2 | exact kn) ?_))
end
set_option maxRecDepth 100000 in
theorem beven_law (ss0 : List SV) (sh0 : ShpT Tryz.prog 6 24 ss0) (p : Int) (w1 : (Lit.int .i64 p).wf = true) :
    Go.Ev.Fn CX 12 [.agg ss0, .int .i64 p] (.bool true) := by
  obtain ⟨s, n, d, rfl, hn, hd, ln, ld⟩ := shp_rat (n := 3) sh0
  have r1 := wf_int64E w1
  have mx : maxLen ≤ 9223372036854775807 := by decide
  by_cases c : n.length ≤ 3 ∧ d.length ≤ 3 ∧ 0 ≤ p ∧ p ≤ 80
  · obtain ⟨c1, c2, c3, c4⟩ := c
    obtain ⟨z, hz⟩ : ∃ x : Rat, RatA (ratV s n d) x 3 := ⟨_, s, n, d, rfl, hn, hd, c1, c2, rfl⟩
    obtain ⟨P, rfl⟩ : ∃ P : Nat, p = (P : Int) := ⟨p.toNat, by omega⟩
    exact beven_in hz c1 c2 (by omega)
  · exact beven_out (Nat.le_trans ln mx) (Nat.le_trans ld mx) r1 (by omega)
end Go.Proofs.YtemnjalaincijaaGreat
