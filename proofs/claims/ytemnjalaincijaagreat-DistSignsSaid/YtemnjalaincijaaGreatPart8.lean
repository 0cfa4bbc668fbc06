/- Part 8 of the proof: the evaluator, contracts of functions and their plain laws (joined by program). No condition. -/
import Derived.Test.YtemnjalaincijaaGreatPart7
import Derived.KernelRfl
/- test: over, square, isBelow, student, paired, spread, pooled, fisher, in the evaluator. -/
namespace Go.Proofs.YtemnjalaincijaaGreat
set_option linter.unusedSimpArgs false
set_option linter.unusedVariables false
set_option maxRecDepth 8000
open Go.Ev
theorem rat_Zero {v : SV} {q : Rat} {L : Nat} (hv : RatA v q L) (hL : 1 ≤ L) (hL2 : L ≤ 16777216) : Go.Ev.Fn CX 55 [v] (.bool (decide (q = 0))) := by
  have hN := rat_Norm hv (by omega)
  obtain ⟨s, n, d, rfl, -⟩ := hv
  by_cases h : q = 0
  · subst h
    rw [decide_eq_true rfl]
    rw [rv_zero] at hN
    refine Go.Ev.Fn.intro (fn := Tryz.f55) (body := (Tryz.f55).body.get!) (by kernel_rfl) (by kernel_rfl) (by kernel_rfl) (fun _ => rfl) (Nat.le_of_ble_eq_true (by kernel_rfl)) ?_; unfold Tryz.f55; simp only [Option.get!_some]
    repeat (first | (simp only [go_sem, Nat.reduceEqDiff, Nat.reduceAdd, Nat.reduceSub, Nat.reduceMul, Nat.reduceLeDiff, Nat.reduceLT, reduceIte, reduceCtorEq, Nat.succ_ne_zero, elemsC, Int.reduceToNat, Nat.reducePow]) | (simp (disch := (first | omega | (simp only [AL, List.length_map]; omega))) only [AR, AL, ifT, ifF, take_all, List.length_cons, List.length_nil, Int.reduceToNat, Int.reducePow, Nat.reducePow]) | (refine wk_intro (by kernel_rfl) ?_) | (refine vf_of (by first | exact hN) ?_))
  · have hp := lim_pos (N := q.num.natAbs) (fun e => h (num_zero.1 (by omega)))
    rw [decide_eq_false h]
    refine Go.Ev.Fn.intro (fn := Tryz.f55) (body := (Tryz.f55).body.get!) (by kernel_rfl) (by kernel_rfl) (by kernel_rfl) (fun _ => rfl) (Nat.le_of_ble_eq_true (by kernel_rfl)) ?_; unfold Tryz.f55; simp only [Option.get!_some]
    repeat (first | (simp only [go_sem, Nat.reduceEqDiff, Nat.reduceAdd, Nat.reduceSub, Nat.reduceMul, Nat.reduceLeDiff, Nat.reduceLT, reduceIte, reduceCtorEq, Nat.succ_ne_zero, elemsC, Int.reduceToNat, Nat.reducePow]) | (simp (disch := (first | omega | (simp only [AL, List.length_map]; omega))) only [AR, AL, ifT, ifF, take_all, List.length_cons, List.length_nil, Int.reduceToNat, Int.reducePow, Nat.reducePow]) | (refine wk_intro (by kernel_rfl) ?_) | (refine vf_of (by first | exact hN) ?_))
end Go.Proofs.YtemnjalaincijaaGreat

/- ball.Of, Sub; incg.P, Q at 0; vernierref4.Has, in the evaluator. -/
namespace Go.Proofs.YtemnjalaincijaaGreat
set_option linter.unusedSimpArgs false
set_option linter.unusedVariables false
set_option maxRecDepth 8000
open Go.Ev
/-- A ball's ends. -/
abbrev ballR (a b : Rat) : SV := .agg [.bool (decide (a.num < 0)), natV (lim a.num.natAbs), natV (lim a.den), .bool (decide (b.num < 0)), natV (lim b.num.natAbs), natV (lim b.den)]
theorem ball_Of {v : SV} {q : Rat} {L : Nat} (hv : RatA v q L) (hL : L ≤ 1000000) : Go.Ev.Fn CX 56 [v] (ballR q q) := by
  have n1 := rat_Norm hv (by omega)
  obtain ⟨s, n, d, rfl, -⟩ := hv
  refine Go.Ev.Fn.intro (fn := Tryz.f56) (body := (Tryz.f56).body.get!) (by kernel_rfl) (by kernel_rfl) (by kernel_rfl) (fun _ => rfl) (Nat.le_of_ble_eq_true (by kernel_rfl)) ?_; unfold Tryz.f56; simp only [Option.get!_some]
  repeat (first | (simp only [go_sem, Nat.reduceEqDiff, Nat.reduceAdd, Nat.reduceSub, Nat.reduceMul, Nat.reduceLeDiff, Nat.reduceLT, reduceIte, reduceCtorEq, Nat.succ_ne_zero, elemsC, Int.reduceToNat, Nat.reducePow]) | (simp (disch := (first | omega | (simp only [AL, List.length_map]; omega))) only [AR, AL, ifT, ifF, take_all, List.length_cons, List.length_nil, Int.reduceToNat, Int.reducePow, Nat.reducePow]) | (refine wk_intro (by kernel_rfl) ?_) | (refine vp_draw (id := 1) (l := []) (by kernel_rfl) ?_) | (refine vf_of (by first | exact n1) ?_))
theorem ball_Sub {a b c d : Rat} {L : Nat} (ha : szR a L) (hb : szR b L) (hc : szR c L) (hd : szR d L) (hL : 1 ≤ L) (hL2 : L ≤ 1000000) : Go.Ev.Fn CX 71 [ballR a b, ballR c d] (ballR (a - d) (b - c)) := by
  have s1 := rat_Sub (RatA_rv ha) (RatA_rv hd) hL hL (by omega)
  have s2 := rat_Sub (RatA_rv hb) (RatA_rv hc) hL hL (by omega)
  refine Go.Ev.Fn.intro (fn := Tryz.f71) (body := (Tryz.f71).body.get!) (by kernel_rfl) (by kernel_rfl) (by kernel_rfl) (fun _ => rfl) (Nat.le_of_ble_eq_true (by kernel_rfl)) ?_; unfold Tryz.f71; simp only [Option.get!_some]
  repeat (first | (simp only [go_sem, Nat.reduceEqDiff, Nat.reduceAdd, Nat.reduceSub, Nat.reduceMul, Nat.reduceLeDiff, Nat.reduceLT, reduceIte, reduceCtorEq, Nat.succ_ne_zero, elemsC, Int.reduceToNat, Nat.reducePow]) | (simp (disch := (first | omega | (simp only [AL, List.length_map]; omega))) only [AR, AL, ifT, ifF, take_all, List.length_cons, List.length_nil, Int.reduceToNat, Int.reducePow, Nat.reducePow]) | (refine wk_intro (by kernel_rfl) ?_) | (refine vp_draw (id := 1) (l := []) (by kernel_rfl) ?_) | (refine vf_of (by first | exact s1 | exact s2) ?_))
end Go.Proofs.YtemnjalaincijaaGreat

/- fix: Rat, Unit, Told, Ball, Inverse, in the evaluator. -/
namespace Go.Proofs.YtemnjalaincijaaGreat
set_option linter.unusedSimpArgs false
set_option linter.unusedVariables false
set_option maxRecDepth 8000
open Go.Ev
theorem mul_denE (D : Rat) : D * (D.den : Rat) = (D.num : Rat) := by
  have dn : (0 : Rat) < (D.den : Rat) := by exact_mod_cast Rat.den_pos (self := D)
  have := (Rat.mkRat_eq_div D.num D.den).symm.trans (Rat.mkRat_self D)
  have e := Rat.div_mul_cancel (a := (D.num : Rat)) (b := (D.den : Rat)) (by grind)
  rwa [this] at e
theorem fix_Rat {q : Rat} {w L : Nat} (hz : szR q L) (hL : L ≤ 1000) (hw : w ≤ 10000) : Go.Ev.Fn CX 128 [rv q, .int .i64 (w : Int)] (spanV (q.num.natAbs * 2 ^ w / q.den) (q.num.natAbs * 2 ^ w / q.den + 1)) := by
  obtain ⟨z1, z2⟩ := hz
  have o := fix_Of (n := q.num.natAbs) (d := q.den) (w := w) (by omega) (by omega) q.den_nz (by omega)
  generalize q.num.natAbs * 2 ^ w / q.den = x at *
  refine Go.Ev.Fn.intro (fn := Tryz.f128) (body := (Tryz.f128).body.get!) (by kernel_rfl) (by kernel_rfl) (by kernel_rfl) (fun _ => rfl) (Nat.le_of_ble_eq_true (by kernel_rfl)) ?_; unfold Tryz.f128; simp only [Option.get!_some]
  repeat (first | (simp only [go_sem, Nat.reduceEqDiff, Nat.reduceAdd, Nat.reduceSub, Nat.reduceMul, Nat.reduceLeDiff, Nat.reduceLT, reduceIte, reduceCtorEq, Nat.succ_ne_zero, elemsC, Int.reduceToNat, Nat.reducePow]) | (simp (disch := (first | omega | (simp only [AL, List.length_map]; omega))) only [AR, AL, ifT, ifF, take_all, List.length_cons, List.length_nil, Int.reduceToNat, Int.reducePow, Nat.reducePow]) | (refine wk_intro (by kernel_rfl) ?_) | (refine vf_of (by first | exact o) ?_))
theorem fix_Unit {w : Nat} (hw : w ≤ 1000000000) : Go.Ev.Fn CX 124 [.int .i64 (w : Int)] (spanV (2 ^ w) (2 ^ w + 1)) := by
  have o := fix_One
  have l1 := lim_len1
  have s := fix_shl (a := 1) (m := w) (by omega) (by omega)
  have l := lim_len_shl (a := 1) (n := w)
  rw [Nat.one_mul] at s l
  have n1 := fix_Next (a := 2 ^ w) (by omega)
  generalize 2 ^ w = P at *
  refine Go.Ev.Fn.intro (fn := Tryz.f124) (body := (Tryz.f124).body.get!) (by kernel_rfl) (by kernel_rfl) (by kernel_rfl) (fun _ => rfl) (Nat.le_of_ble_eq_true (by kernel_rfl)) ?_; unfold Tryz.f124; simp only [Option.get!_some]
  repeat (first | (simp only [go_sem, Nat.reduceEqDiff, Nat.reduceAdd, Nat.reduceSub, Nat.reduceMul, Nat.reduceLeDiff, Nat.reduceLT, reduceIte, reduceCtorEq, Nat.succ_ne_zero, elemsC, Int.reduceToNat, Nat.reducePow]) | (simp (disch := (first | omega | (simp only [AL, List.length_map]; omega))) only [AR, AL, ifT, ifF, take_all, List.length_cons, List.length_nil, Int.reduceToNat, Int.reducePow, Nat.reducePow]) | (refine wk_intro (by kernel_rfl) ?_) | (refine vf_of (by first | exact o | exact s | exact n1) ?_))
theorem fix_Told {a b w p : Nat} (ha : (lim a).length ≤ 10000) (hb : (lim b).length ≤ 10000) (hp : p < w) (hw : w ≤ 10000) : Go.Ev.Fn CX 63 [spanV a b, .int .i64 (w : Int), .int .i64 (p : Int)] (ballR (mkRat ((a / 2 ^ (w - p) : Nat) : Int) (2 ^ p)) (mkRat ((b / 2 ^ (w - p) + 1 : Nat) : Int) (2 ^ p))) := by
  have o := fix_One
  have l1 := lim_len1
  have sh := fix_shl (a := 1) (m := p) (by omega) (by omega)
  have lp := lim_len_shl (a := 1) (n := p)
  rw [Nat.one_mul] at sh lp
  have e0 : (p : Int) - (w : Int) = -((w - p : Nat) : Int) := by omega
  have s1 := fix_shr (a := a) (m := w - p) (by omega) (by omega) (by omega)
  have s2 := fix_shr (a := b) (m := w - p) (by omega) (by omega) (by omega)
  have l3 := lim_len_mono (Nat.div_le_self a (2 ^ (w - p)))
  have l4 := lim_len_mono (Nat.div_le_self b (2 ^ (w - p)))
  have n1 := fix_Next (a := b / 2 ^ (w - p)) (by omega)
  have l5 := lim_len_add (a := b / 2 ^ (w - p)) (b := 1) (L := 10000) (by omega) (by omega)
  have r1 := rat_OfL (s := false) (n := a / 2 ^ (w - p)) (d := 2 ^ p) (by omega) (by omega)
  have r2 := rat_OfL (s := false) (n := b / 2 ^ (w - p) + 1) (d := 2 ^ p) (by omega) (by omega)
  rw [show sgn false (a / 2 ^ (w - p)) = ((a / 2 ^ (w - p) : Nat) : Int) from rfl] at r1
  rw [show sgn false (b / 2 ^ (w - p) + 1) = ((b / 2 ^ (w - p) + 1 : Nat) : Int) from rfl] at r2
  generalize mkRat ((a / 2 ^ (w - p) : Nat) : Int) (2 ^ p) = q1 at *
  generalize mkRat ((b / 2 ^ (w - p) + 1 : Nat) : Int) (2 ^ p) = q2 at *
  generalize b / 2 ^ (w - p) + 1 = y' at *
  generalize a / 2 ^ (w - p) = x at *
  generalize b / 2 ^ (w - p) = y at *
  generalize 2 ^ p = P at *
  generalize hk : w - p = k at *
  refine Go.Ev.Fn.intro (fn := Tryz.f63) (body := (Tryz.f63).body.get!) (by kernel_rfl) (by kernel_rfl) (by kernel_rfl) (fun _ => rfl) (Nat.le_of_ble_eq_true (by kernel_rfl)) ?_; unfold Tryz.f63; simp only [Option.get!_some]
  repeat (first | (simp only [go_sem, Nat.reduceEqDiff, Nat.reduceAdd, Nat.reduceSub, Nat.reduceMul, Nat.reduceLeDiff, Nat.reduceLT, reduceIte, reduceCtorEq, Nat.succ_ne_zero, elemsC, Int.reduceToNat, Nat.reducePow, e0]) | (simp (disch := (first | omega | (simp only [AL, List.length_map]; omega))) only [AR, AL, ifT, ifF, take_all, List.length_cons, List.length_nil, Int.reduceToNat, Int.reducePow, Nat.reducePow, e0]) | (refine wk_intro (by kernel_rfl) ?_) | (refine vp_draw (id := 2) (l := [12, 16, 7, 20, 24, 25, 7]) (by kernel_rfl) ?_) | (refine vf_of (by first | exact o | exact sh | exact s1 | exact r1 | exact s2 | exact n1 | exact r2) ?_))
/-- A number's whole part in units. -/
abbrev unN (q : Rat) (w : Nat) : Nat := q.num.natAbs * 2 ^ w / q.den
theorem fix_Ball {lo hi : Rat} {w L : Nat} (h1 : szR lo L) (h2 : szR hi L) (hL : L ≤ 1000) (hw : w ≤ 10000) : Go.Ev.Fn CX 64 [ballR lo hi, .int .i64 (w : Int)] (spanV (unN lo w) (unN hi w + 1)) := by
  have r1 : Go.Ev.Fn CX 128 [rv lo, .int .i64 (w : Int)] (spanV (unN lo w) (unN lo w + 1)) := fix_Rat h1 hL hw
  have r2 : Go.Ev.Fn CX 128 [rv hi, .int .i64 (w : Int)] (spanV (unN hi w) (unN hi w + 1)) := fix_Rat h2 hL hw
  generalize unN lo w = x at *
  generalize unN hi w = y at *
  refine Go.Ev.Fn.intro (fn := Tryz.f64) (body := (Tryz.f64).body.get!) (by kernel_rfl) (by kernel_rfl) (by kernel_rfl) (fun _ => rfl) (Nat.le_of_ble_eq_true (by kernel_rfl)) ?_; unfold Tryz.f64; simp only [Option.get!_some]
  repeat (first | (simp only [go_sem, Nat.reduceEqDiff, Nat.reduceAdd, Nat.reduceSub, Nat.reduceMul, Nat.reduceLeDiff, Nat.reduceLT, reduceIte, reduceCtorEq, Nat.succ_ne_zero, elemsC, Int.reduceToNat, Nat.reducePow]) | (simp (disch := (first | omega | (simp only [AL, List.length_map]; omega))) only [AR, AL, ifT, ifF, take_all, List.length_cons, List.length_nil, Int.reduceToNat, Int.reducePow, Nat.reducePow]) | (refine wk_intro (by kernel_rfl) ?_) | (refine vp_draw (id := 1) (l := []) (by kernel_rfl) ?_) | (refine vf_of (by first | exact r1 | exact r2) ?_))
theorem fix_Inverse {a b w : Nat} (h1 : (lim a).length ≤ 50000000) (h2 : (lim b).length ≤ 50000000) (ha : 0 < a) (hb : 0 < b) (hw : w ≤ 400000000) : Go.Ev.Fn CX 150 [spanV a b, .int .i64 (w : Int)] (spanV (2 ^ (2 * w) / b) (2 ^ (2 * w) / a + 1)) := by
  have o := fix_One
  have l1 := lim_len1
  have s := fix_shl (a := 1) (m := 2 * w) (by omega) (by omega)
  have l := lim_len_shl (a := 1) (n := 2 * w)
  rw [Nat.one_mul] at s l
  have o1 := fix_Over' (N := 2 ^ (2 * w)) (D := b) (by omega) (by omega) (by omega)
  have o2 := fix_Over' (N := 2 ^ (2 * w)) (D := a) (by omega) (by omega) (by omega)
  have l2 := lim_len_mono (Nat.div_le_self (2 ^ (2 * w)) a)
  have n1 := fix_Next (a := 2 ^ (2 * w) / a) (by omega)
  rw [show ((2 * w : Nat) : Int) = 2 * (w : Int) by omega] at s
  generalize 2 ^ (2 * w) / b = x at *
  generalize 2 ^ (2 * w) / a + 1 = y' at *
  generalize 2 ^ (2 * w) / a = y at *
  generalize 2 ^ (2 * w) = P at *
  refine Go.Ev.Fn.intro (fn := Tryz.f150) (body := (Tryz.f150).body.get!) (by kernel_rfl) (by kernel_rfl) (by kernel_rfl) (fun _ => rfl) (Nat.le_of_ble_eq_true (by kernel_rfl)) ?_; unfold Tryz.f150; simp only [Option.get!_some]
  repeat (first | (simp only [go_sem, Nat.reduceEqDiff, Nat.reduceAdd, Nat.reduceSub, Nat.reduceMul, Nat.reduceLeDiff, Nat.reduceLT, reduceIte, reduceCtorEq, Nat.succ_ne_zero, elemsC, Int.reduceToNat, Nat.reducePow]) | (simp (disch := (first | omega | (simp only [AL, List.length_map]; omega))) only [AR, AL, ifT, ifF, take_all, List.length_cons, List.length_nil, Int.reduceToNat, Int.reducePow, Nat.reducePow]) | (refine wk_intro (by kernel_rfl) ?_) | (refine vp_draw (id := 2) (l := [5, 12, 5, 16, 17]) (by kernel_rfl) ?_) | (refine vf_of (by first | exact o | exact s | exact o1 | exact o2 | exact n1) ?_))
theorem enc_inv {a b w : Nat} {q : Rat} (ha : 0 < a) (h : Enc w a b q) : Enc w (2 ^ (2 * w) / b) (2 ^ (2 * w) / a + 1) (1 / q) ∧ 0 < q := by
  obtain ⟨h1, h2⟩ := h
  have P := p2_pos w
  have aR : (0 : Rat) < (a : Rat) := by exact_mod_cast ha
  have qP : 0 < q * p2 w := by grind
  have q0 : 0 < q := by
    rcases Rat.le_total (a := q) (b := 0) with g | g
    · have := Rat.mul_le_mul_of_nonneg_right g (show 0 ≤ p2 w by grind)
      grind
    · by_cases e : q = 0
      · rw [e] at qP; grind
      · grind
  have bR : (0 : Rat) < (b : Rat) := by grind
  have hb : 0 < b := by exact_mod_cast bR
  have e0 : ((2 ^ (2 * w) : Nat) : Rat) = p2 w * p2 w := by
    show _ = ((2 ^ w : Nat) : Rat) * ((2 ^ w : Nat) : Rat)
    have : ((2 ^ w : Nat) : Rat) * ((2 ^ w : Nat) : Rat) = ((2 ^ w * 2 ^ w : Nat) : Rat) := by exact_mod_cast rfl
    rw [this, ← Nat.pow_add]
    congr 2
    omega
  have f := floor_le (a := 2 ^ (2 * w)) (d := b)
  have g := le_floor (a := 2 ^ (2 * w)) (d := a) ha
  rw [e0] at f g
  have iq : 1 / q * q = 1 := Rat.div_mul_cancel (by grind)
  have i0 : 0 ≤ 1 / q := by
    rcases Rat.le_total (a := 0) (b := 1 / q) with k | k
    · exact k
    · have := Rat.mul_le_mul_of_nonneg_right k (show 0 ≤ q by grind)
      grind
  generalize 1 / q = i at *
  refine ⟨⟨le_by bR ?_, le_by aR ?_⟩, q0⟩
  · -- x * b <= P * P = i * q * P * P <= i P * b
    have k1 := Rat.mul_le_mul_of_nonneg_left h2 (show 0 ≤ i * p2 w from Rat.mul_nonneg i0 (by grind))
    have k2 : i * p2 w * (q * p2 w) = p2 w * p2 w := by
      have : i * p2 w * (q * p2 w) = i * q * (p2 w * p2 w) := by grind
      rw [this, iq, Rat.one_mul]
    grind
  · have k1 := Rat.mul_le_mul_of_nonneg_left h1 (show 0 ≤ i * p2 w from Rat.mul_nonneg i0 (by grind))
    have k2 : i * p2 w * (q * p2 w) = p2 w * p2 w := by
      have : i * p2 w * (q * p2 w) = i * q * (p2 w * p2 w) := by grind
      rw [this, iq, Rat.one_mul]
    grind
theorem unN_le {q : Rat} (h0 : 0 ≤ q) (w : Nat) : ((unN q w : Nat) : Rat) ≤ q * p2 w ∧ q * p2 w ≤ ((unN q w + 1 : Nat) : Rat) := by
  have D : (0 : Rat) < (q.den : Rat) := by exact_mod_cast q.den_pos
  have f := floor_le (a := q.num.natAbs * 2 ^ w) (d := q.den)
  have g := le_floor (a := q.num.natAbs * 2 ^ w) (d := q.den) q.den_pos
  have e : ((q.num.natAbs * 2 ^ w : Nat) : Rat) = q * p2 w * (q.den : Rat) := by
    have c1 : ((q.num.natAbs * 2 ^ w : Nat) : Rat) = ((q.num.natAbs : Nat) : Rat) * p2 w := by exact_mod_cast rfl
    have h := mul_denE q
    have h2 : ((q.num.natAbs : Nat) : Rat) = (q.num : Rat) := by
      have : (q.num.natAbs : Int) = q.num := Int.natAbs_of_nonneg (Rat.num_nonneg.2 h0)
      rw [← this]; rfl
    rw [c1, h2, ← h]
    grind
  rw [e] at f g
  exact ⟨le_by D f, le_by D g⟩
/-- What lies in a ball lies in its span. -/
theorem ball_enc {lo hi q : Rat} (h0 : 0 ≤ lo) (h1 : lo ≤ q) (h2 : q ≤ hi) (w : Nat) : Enc w (unN lo w) (unN hi w + 1) q := by
  have P := p2_pos w
  have a := (unN_le h0 w).1
  have b := (unN_le (show 0 ≤ hi by grind) w).2
  have c := Rat.mul_le_mul_of_nonneg_right h1 (show 0 ≤ p2 w by grind)
  have d := Rat.mul_le_mul_of_nonneg_right h2 (show 0 ≤ p2 w by grind)
  exact ⟨Rat.le_trans a c, Rat.le_trans d b⟩
end Go.Proofs.YtemnjalaincijaaGreat

/- e's powers: when their digits are certain. Plain mathematics. -/
namespace Go.Proofs.YtemnjalaincijaaGreat
open Go.Ev
set_option linter.unusedVariables false
theorem E_three {y : Rat} (h0 : 0 ≤ y) (h1 : y ≤ 1) (L : Nat) : Ex.E y L ≤ 3 := by
  have t := Ex.E_tail_le (L := L) h0 (N := 1) (show y + y ≤ ((1 + 1 : Nat) : Rat) by have : ((1 + 1 : Nat) : Rat) = 2 := rfl; rw [this]; grind)
  have e1 : Ex.E y 1 = 1 := by show (0 : Rat) + 1 = 1; decide +kernel
  have s := Ex.tm_succ y 0
  have e2 : ((0 + 1 : Nat) : Rat) = 1 := rfl
  have e3 : Ex.tm y 0 = 1 := rfl
  rw [e2, e3] at s
  rw [e1] at t
  grind
theorem pow_mono {a b : Rat} (h0 : 0 ≤ a) (h : a ≤ b) : ∀ n : Nat, a ^ n ≤ b ^ n
  | 0 => by rw [Rat.pow_zero, Rat.pow_zero]; exact Rat.le_refl
  | n + 1 => by
    rw [Rat.pow_succ, Rat.pow_succ]
    exact Rat.le_trans (Rat.mul_le_mul_of_nonneg_right (pow_mono h0 h n) h0) (Rat.mul_le_mul_of_nonneg_left h (Ex.pow_nn (show 0 ≤ b by grind) n))
theorem E_big {x : Rat} (h0 : 0 ≤ x) (h1 : x ≤ 64) (L : Nat) : Ex.E x L ≤ Ex.t2 102 := by
  rcases Nat.eq_zero_or_pos L with e | e
  · subst e; exact Rat.le_of_lt (Ex.t2_pos 102)
  · have hq : (1 / 64 : Rat) * 64 = 1 := by decide +kernel
    have q0 : (0 : Rat) ≤ 1 / 64 := by decide +kernel
    have y0 : 0 ≤ 1 / 64 * x := Rat.mul_nonneg q0 h0
    have y1 : 1 / 64 * x ≤ 1 := by
      have := Rat.mul_le_mul_of_nonneg_left h1 q0
      rwa [hq] at this
    have p := Ex.E_pow_ge y0 e 64
    have ex : ((64 : Nat) : Rat) * (1 / 64 * x) = x := by
      have : ((64 : Nat) : Rat) = 64 := rfl
      rw [this]; generalize (1 / 64 : Rat) = q at *; grind
    rw [ex] at p
    have t : (3 : Rat) ^ 64 ≤ Ex.t2 102 := by decide +kernel
    exact Rat.le_trans p (Rat.le_trans (pow_mono (Ex.E_nn y0 L) (E_three y0 y1 L) 64) t)
/-- All cut rows from one on are at least 1. -/
theorem E_one {x : Rat} (h0 : 0 ≤ x) {L : Nat} (h : 1 ≤ L) : 1 ≤ Ex.E x L := by
  have m := Ex.E_mono h0 h
  have e1 : Ex.E x 1 = 1 := by show (0 : Rat) + 1 = 1; decide +kernel
  rw [e1] at m; exact m
/-- The power of a positive number, as it is reckoned. -/
theorem near_ok {n d w g c : Nat} (hg : g = 32794) (hc : c = 32768) (hd : 0 < d) (h : n ≤ 64 * d) (hw : 160 ≤ w) :
    ∃ A B : Nat, eRow w (n * 2 ^ w / (d * 2 ^ 14)) (w / 7 + 3) 1 (2 ^ w) (2 ^ w + 1) (2 ^ w) (2 ^ w + 1) = some (A, B) ∧ A ≤ B ∧ 2 ^ w ≤ A ∧ B < 2 ^ (w + 2) ∧ 2 ^ w ≤ (sqs w 14 A B).1 ∧ (sqs w 14 A B).1 ≤ (sqs w 14 A B).2 ∧ (sqs w 14 A B).2 < 2 ^ (w + c) ∧
      (sqs w 14 A B).2 ≤ (sqs w 14 A B).1 + w * 2 ^ g ∧ ∀ x : Rat, x * (d : Rat) = (n : Rat) → ∃ s, ∀ L, s ≤ L → Enc w (sqs w 14 A B).1 (sqs w 14 A B).2 (Ex.E x L) := by
  obtain ⟨Y, hY⟩ : ∃ Y : Nat, Y = n * 2 ^ w / (d * 2 ^ 14) := ⟨_, rfl⟩
  rw [← hY]
  have dp : 0 < d * 2 ^ 14 := by omega
  have P : 0 < 2 ^ w := Nat.pow_pos (by omega)
  have e8 : 2 ^ w = 2 ^ (w - 8) * 256 := by rw [show (256 : Nat) = 2 ^ 8 from rfl, ← Nat.pow_add]; congr 1; omega
  have e7 : 2 ^ (w - 7) = 2 ^ (w - 8) * 2 := by rw [← Nat.pow_succ]; congr 1; omega
  have p8 : 0 < 2 ^ (w - 8) := Nat.pow_pos (by omega)
  have Yle : Y ≤ 2 ^ (w - 8) := by
    rw [hY]
    refine (Nat.div_le_iff_le_mul dp).2 ?_
    have m := Nat.mul_le_mul_right (2 ^ w) h
    have k : 64 * d * 2 ^ w = 2 ^ (w - 8) * (d * 2 ^ 14) := by
      rw [e8]; generalize 2 ^ (w - 8) = z; rw [show (2 : Nat) ^ 14 = 16384 from rfl]; grind
    omega
  have hY1 : Y + 1 ≤ 2 ^ (w - 7) := by omega
  obtain ⟨A, B, s, r1, r2, r3, r4, r5, r6, r7⟩ := eRow_end (w := w) (Y := Y) (by omega) hY1 (w / 7 + 1) (w / 7 + 3) 1 (2 ^ w) (2 ^ w + 1) (2 ^ w) (2 ^ w + 1) (eInv_0 w) (by
    have : 2 ^ w ≤ 2 ^ (7 * (w / 7 + 1)) := Nat.pow_le_pow_right (by omega) (by omega)
    omega) (by omega) (by omega)
  have lw : w < 2 ^ w := Nat.lt_two_pow_self
  have e1 : 2 ^ (w + 1) = 2 ^ w * 2 := Nat.pow_succ _ _
  have e2 : 2 ^ (w + 2) = 2 ^ w * 4 := Nat.pow_add _ _ _
  obtain ⟨q1, q2, q3, q4⟩ := sqs_ok 14 A B 2 w r4 r5 (by omega) (by omega) (by omega)
  rw [show 2 * (2 ^ 14 - 1) + 2 * 14 = g by omega] at q4
  rw [show 2 * 2 ^ 14 = c by omega] at q3
  refine ⟨A, B, r1, r5, r4, by omega, q1, q2, q3, q4, fun x hx => ?_⟩
  have dR : (0 : Rat) < (d : Rat) := by exact_mod_cast hd
  obtain ⟨j, hj⟩ : ∃ j : Nat, j = 2 ^ 14 := ⟨_, rfl⟩
  have jR : (0 : Rat) < (j : Rat) := by exact_mod_cast (by omega : 0 < j)
  obtain ⟨y, hy⟩ : ∃ y : Rat, y = x / (j : Rat) := ⟨_, rfl⟩
  have jy : (j : Rat) * y = x := by rw [hy]; exact Ex.mul_div _ _ (by grind)
  have dj : (d : Rat) * (j : Rat) = ((d * 2 ^ 14 : Nat) : Rat) := by rw [← hj]; exact_mod_cast rfl
  have yd : y * ((d * 2 ^ 14 : Nat) : Rat) = (n : Rat) := by rw [← dj, ← hx, ← jy]; grind
  have dpR : (0 : Rat) < ((d * 2 ^ 14 : Nat) : Rat) := by exact_mod_cast dp
  have PR := p2_pos w
  have en : Enc w Y (Y + 1) y := by
    have f := floor_le (a := n * 2 ^ w) (d := d * 2 ^ 14)
    have g := le_floor (a := n * 2 ^ w) (d := d * 2 ^ 14) dp
    rw [← hY] at f g
    have k : ((n * 2 ^ w : Nat) : Rat) = y * p2 w * ((d * 2 ^ 14 : Nat) : Rat) := by
      have : ((n * 2 ^ w : Nat) : Rat) = (n : Rat) * p2 w := by exact_mod_cast rfl
      rw [this, ← yd]; grind
    rw [k] at f g
    exact ⟨le_by dpR f, le_by dpR g⟩
  have y0 := enc_nonneg en
  have y1 : y + y ≤ 1 := by
    refine le_by dpR ?_
    rw [Rat.add_mul, yd, Rat.one_mul]
    have : n + n ≤ d * 2 ^ 14 := by omega
    have t : ((n + n : Nat) : Rat) ≤ ((d * 2 ^ 14 : Nat) : Rat) := by exact_mod_cast this
    have e : ((n + n : Nat) : Rat) = (n : Rat) + (n : Rat) := by exact_mod_cast rfl
    rw [e] at t; exact t
  have one : Enc w (2 ^ w) (2 ^ w + 1) 1 := by
    refine ⟨by rw [Rat.one_mul]; exact Rat.le_refl, ?_⟩
    rw [Rat.one_mul]
    exact_mod_cast Nat.le_succ (2 ^ w)
  have E1 : Ex.E y 1 = 1 := by show (0 : Rat) + 1 = 1; decide +kernel
  obtain ⟨s1, hs⟩ := eRow_enc en y1 (w / 7 + 3) 0 _ _ _ _ A B r1 one (by rw [E1]; exact one)
  refine ⟨j * (s1 + 1) + 1, fun L hL => ?_⟩
  have k1 : s1 + 1 ≤ j * (s1 + 1) := Nat.le_mul_of_pos_left _ (by omega)
  have a1 := (sqs_enc 14 A B _ (hs (s1 + 1) (by omega))).1
  have a2 := (sqs_enc 14 A B _ (hs L (by omega))).2
  rw [← hj] at a1 a2
  have u1 := Ex.E_pow_le y0 (s1 + 1) j
  have u2 := Ex.E_pow_ge y0 (show 0 < L by omega) j
  rw [jy] at u1 u2
  have x0 : 0 ≤ x := by rw [← jy]; exact Rat.mul_nonneg (Rat.le_of_lt jR) y0
  have m := Ex.E_mono x0 hL
  exact ⟨Rat.le_trans a1 (Rat.mul_le_mul_of_nonneg_right (Rat.le_trans u1 m) (Rat.le_of_lt PR)), Rat.le_trans (Rat.mul_le_mul_of_nonneg_right u2 (Rat.le_of_lt PR)) a2⟩
/-- Where digits are not certain, a rational of few digits lies within. -/
theorem cert_or {lo hi w p : Nat} (h : lo < hi) (hc : lo / 2 ^ (w - p) ≠ (hi - 1) / 2 ^ (w - p)) : ∃ u : Nat, 0 < u ∧ lo ≤ u * 2 ^ (w - p) ∧ u * 2 ^ (w - p) ≤ hi - 1 := by
  have P : 0 < 2 ^ (w - p) := Nat.pow_pos (by omega)
  have m : lo / 2 ^ (w - p) ≤ (hi - 1) / 2 ^ (w - p) := Nat.div_le_div_right (by omega)
  have lt := Nat.lt_of_le_of_ne m hc
  refine ⟨(hi - 1) / 2 ^ (w - p), Nat.lt_of_le_of_lt (Nat.zero_le _) lt, ?_, Nat.div_mul_le_self _ _⟩
  have k := Nat.lt_mul_div_succ lo P
  have k2 : 2 ^ (w - p) * (lo / 2 ^ (w - p) + 1) ≤ 2 ^ (w - p) * ((hi - 1) / 2 ^ (w - p)) := Nat.mul_le_mul_left _ lt
  rw [Nat.mul_comm]
  exact Nat.le_of_lt (Nat.lt_of_lt_of_le k k2)
theorem dist_bd {w lo hi G : Nat} {q r : Rat} (h1 : Enc w lo hi q) (h2 : (lo : Rat) ≤ r * p2 w) (h3 : r * p2 w ≤ (hi : Rat)) (hG : hi ≤ lo + G) : Ex.Bdd ((q - r) * p2 w) (G : Rat) := by
  obtain ⟨a, b⟩ := h1
  have k : (hi : Rat) ≤ ((lo + G : Nat) : Rat) := by exact_mod_cast hG
  have e : ((lo + G : Nat) : Rat) = (lo : Rat) + (G : Rat) := by exact_mod_cast rfl
  rw [e] at k
  rw [show (q - r) * p2 w = q * p2 w - r * p2 w by grind]
  generalize q * p2 w = x at *
  generalize r * p2 w = y at *
  constructor <;> grind
theorem bd_less {z : Rat} {w W : Nat} {G : Rat} (h : Ex.Bdd (z * p2 w) G) (hG : G * Ex.t2 W ≤ p2 w) : Ex.Bdd (z * Ex.t2 W) 1 := by
  have P := p2_pos w
  have T := Ex.t2_pos W
  obtain ⟨a, b⟩ := h
  have m1 := Rat.mul_le_mul_of_nonneg_right a (Rat.le_of_lt T)
  have m2 := Rat.mul_le_mul_of_nonneg_right b (Rat.le_of_lt T)
  have e : z * p2 w * Ex.t2 W = z * Ex.t2 W * p2 w := by grind
  rw [e] at m1 m2
  constructor
  · refine le_by P ?_
    generalize z * Ex.t2 W * p2 w = y at *
    have : -G * Ex.t2 W = -(G * Ex.t2 W) := by grind
    rw [this] at m1
    grind
  · refine le_by P ?_
    generalize z * Ex.t2 W * p2 w = y at *
    grind
theorem cast_p2 (u w p : Nat) (h : p ≤ w) : ((u * 2 ^ (w - p) : Nat) : Rat) * p2 p = (u : Rat) * p2 w := by
  have e : 2 ^ w = 2 ^ (w - p) * 2 ^ p := by rw [← Nat.pow_add]; congr 1; omega
  have e2 : p2 w = p2 (w - p) * p2 p := by
    show ((2 ^ w : Nat) : Rat) = _
    rw [e]; exact_mod_cast rfl
  have e3 : ((u * 2 ^ (w - p) : Nat) : Rat) = (u : Rat) * p2 (w - p) := by exact_mod_cast rfl
  rw [e2, e3, Rat.mul_assoc]
theorem size_W {w g r W : Nat} (hW : W = 70000000) (hg : g + r ≤ 40000) (hw : 71000000 ≤ w) (hw2 : w ≤ 2 ^ 40) : ((w * 2 ^ g * 2 ^ r : Nat) : Rat) * Ex.t2 W ≤ p2 w := by
  have h : w * 2 ^ g * 2 ^ r * 2 ^ W ≤ 2 ^ w := by
    refine Nat.le_trans (Nat.mul_le_mul_right _ (Nat.mul_le_mul_right _ (Nat.mul_le_mul_right _ hw2))) ?_
    rw [← Nat.pow_add, ← Nat.pow_add, ← Nat.pow_add]
    exact Nat.pow_le_pow_right (by omega) (by omega)
  have e : ((w * 2 ^ g * 2 ^ r * 2 ^ W : Nat) : Rat) = ((w * 2 ^ g * 2 ^ r : Nat) : Rat) * Ex.t2 W := Ex.castmul _ _
  rw [← e]
  exact Ex.castle h
theorem near_le {e al T : Rat} (d : -1 ≤ (e - al) * T) (T1 : 1 ≤ T) : al ≤ e + 1 := by
  refine Rat.not_lt.1 fun h => ?_
  have m := Rat.mul_le_mul_of_nonneg_left T1 (show 0 ≤ al - e by grind)
  grind
theorem le_two {e al M : Rat} (h1 : al ≤ e + 1) (h2 : e ≤ M) (h3 : 1 ≤ M) : al ≤ M + M := by grind
/-- Of a positive number. -/
theorem cert_pos {a b lo hi w p g s : Nat} {x : Rat} (ha : 0 < a) (hb : 0 < b) (hb2 : b ≤ 2 ^ 240) (hx : x * (b : Rat) = (a : Rat)) (hx2 : x ≤ 64) (hp : p ≤ 512) (hg : g ≤ 39000) (h : lo < hi) (hG : hi ≤ lo + w * 2 ^ g)
    (hE : ∀ L, s ≤ L → Enc w lo hi (Ex.E x L)) (hw : 71000000 ≤ w) (hw2 : w ≤ 2 ^ 40) : lo / 2 ^ (w - p) = (hi - 1) / 2 ^ (w - p) := by
  refine Classical.byContradiction fun hc => ?_
  obtain ⟨u, u0, u1, u2⟩ := cert_or h hc
  obtain ⟨W, hW⟩ : ∃ k : Nat, k = 70000000 := ⟨_, rfl⟩
  obtain ⟨sv, hsv⟩ : ∃ k : Nat, k = 520 := ⟨_, rfl⟩
  have Pp := p2_pos p
  have P := p2_pos w
  obtain ⟨al, hal⟩ : ∃ r : Rat, r = (u : Rat) / p2 p := ⟨_, rfl⟩
  have ap : al * p2 p = (u : Rat) := by rw [hal]; exact Rat.div_mul_cancel (by grind)
  have uR : (0 : Rat) < (u : Rat) := Ex.castlt u0
  have a0 : 0 < al := by
    rw [hal, Rat.div_def]; exact Rat.mul_pos uR (Rat.inv_pos.2 Pp)
  have c := cast_p2 u w p (by omega)
  have ku : al * p2 w = ((u * 2 ^ (w - p) : Nat) : Rat) := by
    refine Ex.cancel_l (c := p2 p) (by grind) ?_
    rw [Rat.mul_comm, Rat.mul_comm (p2 p), c, ← ap]; grind
  have x0 : 0 ≤ x := by
    have bp : (0 : Rat) < (b : Rat) := Ex.castlt hb
    refine le_by bp ?_
    rw [hx, Rat.zero_mul]; exact nat_nonneg a
  have l1 : (lo : Rat) ≤ al * p2 w := by rw [ku]; exact Ex.castle u1
  have l2 : al * p2 w ≤ (hi : Rat) := by rw [ku]; exact Ex.castle (by omega)
  have near : ∀ L, s ≤ L → Ex.Bdd ((Ex.E x L - al) * Ex.t2 W) 1 := by
    intro L hL
    have d := dist_bd (hE L hL) l1 l2 hG
    refine bd_less d ?_
    have z := size_W (w := w) (g := g) (r := 0) hW (by omega) hw hw2
    rw [Nat.pow_zero, Nat.mul_one] at z
    exact z
  have al2 : al ≤ Ex.t2 103 := by
    have d := near s (Nat.le_refl s)
    have e := E_big x0 hx2 s
    have t : Ex.t2 103 = Ex.t2 102 + Ex.t2 102 := Ex.t2_succ 102
    have o : (1 : Rat) ≤ Ex.t2 102 := by decide +kernel
    have n := near_le d.1 (Ex.t2_mono (show 0 ≤ W by omega))
    rw [t]
    exact le_two n e o
  obtain ⟨K0, hK⟩ := Ex.exp_far (W := W) (by omega) ha hb hb2 hx hx2 hsv (v := 2 ^ p) (u := u) (Nat.pow_pos (by omega)) (Nat.pow_le_pow_right (by omega) (by omega)) ap a0 al2
  exact hK (max K0 s) (Nat.le_max_left _ _) (near _ (Nat.le_max_right _ _))
theorem inv_gapE {M lo hi W : Nat} (h1 : 0 < W) (h2 : M = W * W) (h3 : W ≤ lo) (h4 : lo < hi) (h5 : hi - lo ≤ W) : M / lo ≤ M / hi + (hi - lo) + 1 ∧ M / hi ≤ M / lo ∧ M / lo ≤ W := by
  have lp : 0 < lo := by omega
  have hp : 0 < hi := by omega
  have a : M / hi ≤ W := by
    refine (Nat.div_le_iff_le_mul hp).2 ?_
    rw [h2]
    have := Nat.mul_le_mul_left W (show W ≤ hi by omega)
    omega
  have b : M / lo ≤ W := by
    refine (Nat.div_le_iff_le_mul lp).2 ?_
    rw [h2]
    have := Nat.mul_le_mul_left W h3
    omega
  refine ⟨?_, Nat.div_le_div_left (by omega) lp, b⟩
  refine Nat.le_of_lt_succ ((Nat.div_lt_iff_lt_mul lp).2 ?_)
  have k := Nat.lt_mul_div_succ M hp
  obtain ⟨g, hg⟩ : ∃ g, hi = lo + g := ⟨hi - lo, by omega⟩
  rw [show hi - lo = g by omega]
  generalize M / hi = q at *
  have m1 : q * g ≤ lo * g := Nat.mul_le_mul_right g (by omega)
  have e1 : hi * (q + 1) = q * lo + lo + q * g + g := by rw [hg, Nat.add_mul, Nat.mul_add, Nat.mul_add, Nat.mul_comm lo q, Nat.mul_comm g q]; omega
  have e2 : (q + g + 1).succ * lo = q * lo + lo * g + lo + lo := by
    show (q + g + 1 + 1) * lo = _
    rw [Nat.add_mul, Nat.add_mul, Nat.add_mul, Nat.mul_comm g lo, Nat.one_mul]
  rw [e2]
  rw [e1] at k
  omega
theorem inv_near {e r al P G : Rat} (he : 1 ≤ e) (he2 : e ≤ Ex.t2 102) (hr : r * al = 1) (ha : 0 < al) (hP : 0 < P) (hd : Ex.Bdd ((1 / e - r) * P) G) (hG : G * Ex.t2 103 ≤ P) : al ≤ Ex.t2 103 ∧ Ex.Bdd ((e - al) * P) (G * Ex.t2 205) := by
  have i : e * (1 / e) = 1 := Ex.mul_div e 1 (by grind)
  have T := Ex.t2_pos 103
  have t2' : Ex.t2 103 = Ex.t2 102 + Ex.t2 102 := Ex.t2_succ 102
  have T2 := Ex.t2_pos 102
  have nG := Ex.Bdd_nn hd
  have hal : al ≤ Ex.t2 103 := by
    refine Rat.not_lt.1 fun h => ?_
    have a1 : 1 ≤ 1 / e * Ex.t2 102 := by
      have e0 : 0 ≤ 1 / e := Ex.div_nn (by decide) (by grind)
      have := Rat.mul_le_mul_of_nonneg_left he2 e0
      grind
    have rp : 0 < r := by
      rcases Rat.le_total (a := r) (b := 0) with g | g
      · have := Rat.mul_le_mul_of_nonneg_right g (Rat.le_of_lt ha)
        grind
      · by_cases z : r = 0
        · subst z; grind
        · grind
    have a2 : r * Ex.t2 103 < 1 := by
      have := Rat.mul_pos rp (show 0 < al - Ex.t2 103 by grind)
      grind
    obtain ⟨-, d2⟩ := hd
    have m := Rat.mul_le_mul_of_nonneg_right d2 (Rat.le_of_lt T)
    have a3 : 1 < (1 / e - r) * Ex.t2 103 := by
      rw [t2'] at a2 ⊢
      generalize 1 / e = y at *
      grind
    have m2 := Rat.mul_pos (show 0 < (1 / e - r) * Ex.t2 103 - 1 by grind) hP
    have e2 : ((1 / e - r) * Ex.t2 103 - 1) * P = (1 / e - r) * P * Ex.t2 103 - P := by grind
    rw [e2] at m2
    grind
  refine ⟨hal, ?_⟩
  have e3 : (e - al) * P = (1 / e - r) * P * -(e * al) := by
    have : (1 / e - r) * P * -(e * al) = (r * al) * e * P - e * (1 / e) * al * P := by grind
    rw [this, hr, i]; grind
  rw [e3]
  have t5 : Ex.t2 205 = Ex.t2 102 * Ex.t2 103 := Ex.t2_add 102 103
  have b1 : Ex.Bdd (-(e * al)) (Ex.t2 205) := by
    have n1 : 0 ≤ e * al := Rat.mul_nonneg (by grind) (Rat.le_of_lt ha)
    have m1 := Rat.mul_le_mul_of_nonneg_right he2 (Rat.le_of_lt ha)
    have m2 := Rat.mul_le_mul_of_nonneg_left hal (Rat.le_of_lt T2)
    have m3 := Rat.le_trans m1 m2
    rw [← t5] at m3
    constructor <;> grind
  exact Ex.Bdd_mul hd b1
/-- Of a negative number. -/
theorem cert_neg {a b lo hi w p g s : Nat} {x : Rat} (ha : 0 < a) (hb : 0 < b) (hb2 : b ≤ 2 ^ 240) (hx : x * (b : Rat) = (a : Rat)) (hx2 : x ≤ 64) (hp : p ≤ 512) (hg : g ≤ 39000) (h0 : 2 ^ w ≤ lo) (h : lo < hi) (hG : hi ≤ lo + w * 2 ^ g)
    (hE : ∀ L, s ≤ L → Enc w lo hi (Ex.E x L)) (hw : 71000000 ≤ w) (hw2 : w ≤ 2 ^ 40) : 2 ^ (2 * w) / hi / 2 ^ (w - p) = (2 ^ (2 * w) / lo + 1 - 1) / 2 ^ (w - p) := by
  have PN : 0 < 2 ^ w := Nat.pow_pos (by omega)
  have gw : w * 2 ^ g ≤ 2 ^ w := by
    refine Nat.le_trans (Nat.mul_le_mul_right _ hw2) ?_
    rw [← Nat.pow_add]
    exact Nat.pow_le_pow_right (by omega) (by omega)
  obtain ⟨i1, i2, i3⟩ := inv_gapE (M := 2 ^ (2 * w)) (lo := lo) (hi := hi) PN (by rw [← Nat.pow_add]; congr 1; omega) h0 h (by omega)
  refine Classical.byContradiction fun hc => ?_
  obtain ⟨u, u0, u1, u2⟩ := cert_or (lo := 2 ^ (2 * w) / hi) (hi := 2 ^ (2 * w) / lo + 1) (by omega) hc
  obtain ⟨W, hW⟩ : ∃ k : Nat, k = 70000000 := ⟨_, rfl⟩
  obtain ⟨sv, hsv⟩ : ∃ k : Nat, k = 520 := ⟨_, rfl⟩
  have Pp := p2_pos p
  have P := p2_pos w
  have uR : (0 : Rat) < (u : Rat) := Ex.castlt u0
  obtain ⟨r, hr⟩ : ∃ r : Rat, r = (u : Rat) / p2 p := ⟨_, rfl⟩
  have ar : r * p2 p = (u : Rat) := by rw [hr]; exact Rat.div_mul_cancel (by grind)
  obtain ⟨al, hal⟩ : ∃ r : Rat, r = p2 p / (u : Rat) := ⟨_, rfl⟩
  have au : al * (u : Rat) = ((2 ^ p : Nat) : Rat) := by rw [hal]; exact Rat.div_mul_cancel (by grind)
  have a0 : 0 < al := by
    rw [hal, Rat.div_def]; exact Rat.mul_pos Pp (Rat.inv_pos.2 uR)
  have ra : r * al = 1 := by
    refine Ex.cancel_l (c := p2 p) (by grind) ?_
    have : p2 p * (r * al) = al * (r * p2 p) := by grind
    rw [this, ar, au, Rat.mul_one]
  have c := cast_p2 u w p (by omega)
  have ku : r * p2 w = ((u * 2 ^ (w - p) : Nat) : Rat) := by
    refine Ex.cancel_l (c := p2 p) (by grind) ?_
    rw [Rat.mul_comm, Rat.mul_comm (p2 p), c, ← ar]; grind
  have x0 : 0 ≤ x := by
    have bp : (0 : Rat) < (b : Rat) := Ex.castlt hb
    refine le_by bp ?_
    rw [hx, Rat.zero_mul]; exact nat_nonneg a
  have l1 : ((2 ^ (2 * w) / hi : Nat) : Rat) ≤ r * p2 w := by rw [ku]; exact Ex.castle u1
  have l2 : r * p2 w ≤ ((2 ^ (2 * w) / lo + 1 : Nat) : Rat) := by rw [ku]; exact Ex.castle (Nat.le_trans u2 (Nat.sub_le _ 1))
  have gp : 1 ≤ w * 2 ^ g := Nat.mul_pos (by omega) (Nat.pow_pos (by omega))
  have GG : 2 ^ (2 * w) / lo + 1 ≤ 2 ^ (2 * w) / hi + w * 2 ^ g * 2 ^ 2 := by omega
  have two : ∀ L, s + 1 ≤ L → al ≤ Ex.t2 103 ∧ Ex.Bdd ((Ex.E x L - al) * Ex.t2 W) 1 := by
    intro L hL
    obtain ⟨en, -⟩ := enc_inv (by omega) (hE L (by omega))
    have d := dist_bd en l1 l2 GG
    have z := size_W (w := w) (g := g) (r := 2 + 205) hW (by omega) hw hw2
    have ez : ((w * 2 ^ g * 2 ^ (2 + 205) : Nat) : Rat) = ((w * 2 ^ g * 2 ^ 2 : Nat) : Rat) * Ex.t2 205 := by
      have : w * 2 ^ g * 2 ^ (2 + 205) = w * 2 ^ g * 2 ^ 2 * 2 ^ 205 := by rw [Nat.pow_add 2 2, Nat.mul_assoc (w * 2 ^ g)]
      rw [this]; exact Ex.castmul _ _
    rw [ez] at z
    have nG := nat_nonneg (w * 2 ^ g * 2 ^ 2)
    have small : ((w * 2 ^ g * 2 ^ 2 : Nat) : Rat) * Ex.t2 103 ≤ p2 w := by
      have h1 : w * 2 ^ g * 2 ^ 2 * 2 ^ 103 ≤ 2 ^ w := by
        refine Nat.le_trans (Nat.mul_le_mul_right _ (Nat.mul_le_mul_right _ (Nat.mul_le_mul_right _ hw2))) ?_
        rw [← Nat.pow_add, ← Nat.pow_add, ← Nat.pow_add]
        exact Nat.pow_le_pow_right (by omega) (by omega)
      have e : ((w * 2 ^ g * 2 ^ 2 * 2 ^ 103 : Nat) : Rat) = ((w * 2 ^ g * 2 ^ 2 : Nat) : Rat) * Ex.t2 103 := Ex.castmul _ _
      rw [← e]; exact Ex.castle h1
    obtain ⟨n1, n2⟩ := inv_near (E_one x0 (by omega)) (E_big x0 hx2 L) ra a0 P d small
    exact ⟨n1, bd_less n2 z⟩
  have up : u ≤ 2 ^ p := by
    have e : 2 ^ w = 2 ^ p * 2 ^ (w - p) := by rw [← Nat.pow_add]; congr 1; omega
    have k : u * 2 ^ (w - p) ≤ 2 ^ p * 2 ^ (w - p) := by rw [← e]; omega
    exact Nat.le_of_mul_le_mul_right k (Nat.pow_pos (by omega))
  have up2 : 2 ^ p ≤ 2 ^ sv := Nat.pow_le_pow_right (by omega) (by omega)
  obtain ⟨K0, hK⟩ := Ex.exp_far (W := W) (by omega) ha hb hb2 hx hx2 hsv (v := u) (u := 2 ^ p) u0 (Nat.le_trans up up2) au a0 (two (s + 1) (Nat.le_refl _)).1
  exact hK (max K0 (s + 1)) (Nat.le_max_left _ _) (two _ (Nat.le_max_right _ _)).2
end Go.Proofs.YtemnjalaincijaaGreat

/- vernierref4: whole numbers and what lies between two of them, in the evaluator. -/
namespace Go.Proofs.YtemnjalaincijaaGreat
set_option linter.unusedSimpArgs false
set_option linter.unusedVariables false
set_option maxRecDepth 8000
open Go.Ev
end Go.Proofs.YtemnjalaincijaaGreat

/- vernierref4: Plus, Times, Cmp, Fall, Rise, pow2, Less, More, in the evaluator. -/
namespace Go.Proofs.YtemnjalaincijaaGreat
set_option linter.unusedSimpArgs false
set_option linter.unusedVariables false
set_option maxRecDepth 8000
open Go.Ev
end Go.Proofs.YtemnjalaincijaaGreat

/- vernierref1: Shift downwards, Bits, in the evaluator. -/
namespace Go.Proofs.YtemnjalaincijaaGreat
set_option linter.unusedSimpArgs false
set_option linter.unusedVariables false
set_option maxRecDepth 8000
open Go.Ev
end Go.Proofs.YtemnjalaincijaaGreat

/- vernierref4: Less, More, Num, Sum, Minus, Often, By, Wide, Most, Back, Rat, Ball, in the evaluator. -/
namespace Go.Proofs.YtemnjalaincijaaGreat
set_option linter.unusedSimpArgs false
set_option linter.unusedVariables false
set_option maxRecDepth 8000
open Go.Ev
section
variable {a b c d : Int} (ha : (lim a.natAbs).length ≤ 100000) (hb : (lim b.natAbs).length ≤ 100000) (hc : (lim c.natAbs).length ≤ 100000) (hd : (lim d.natAbs).length ≤ 100000)
include ha hb
end
end Go.Proofs.YtemnjalaincijaaGreat

/- nat.Bits, fix.Small; vernierref1.Bits, vernierref4.root, Sqrt, in the evaluator. -/
namespace Go.Proofs.YtemnjalaincijaaGreat
set_option linter.unusedSimpArgs false
set_option linter.unusedVariables false
set_option maxRecDepth 8000
open Go.Ev
theorem blen_iff {x k : Nat} : blen x ≤ k ↔ x < 2 ^ k := by
  unfold blen
  by_cases h : x = 0
  · rw [if_pos h, h]
    have : 0 < 2 ^ k := Nat.pow_pos (by omega)
    omega
  · rw [if_neg h]
    have := Nat.log2_lt (n := x) (k := k) h
    omega
theorem blen_lims (N : Nat) (h : N ≠ 0) : blen N = 32 * ((lim N).length - 1) + blen ((lim N).getD ((lim N).length - 1) 0) := by
  have h0 := lim_pos h
  have ht := trimL_getD (trimL_lim N) h0
  have hw := wth_lim N
  have hok := okL_lim N
  generalize lim N = a at *
  have h1 := wth_at a (w := a.length - 1) (by omega)
  rw [List.drop_of_length_le (by omega), show wth [] = 0 from rfl, Nat.mul_zero, Nat.add_zero, hw] at h1
  have h2 := wth_lt (okL_take hok (a.length - 1))
  rw [List.length_take, Nat.min_eq_left (by omega)] at h2
  rw [show (4294967296 : Nat) = 2 ^ 32 from rfl, ← Nat.pow_mul] at h1 h2
  have hp : 0 < 2 ^ (32 * (a.length - 1)) := Nat.pow_pos (by omega)
  have h3 : N / 2 ^ (32 * (a.length - 1)) = a.getD (a.length - 1) 0 := by
    rw [h1, Nat.add_mul_div_left _ _ hp, Nat.div_eq_of_lt h2, Nat.zero_add]
  have h4 : 2 ^ (32 * (a.length - 1)) ≤ N := by
    have := Nat.mul_le_mul_left (2 ^ (32 * (a.length - 1))) (show 1 ≤ a.getD (a.length - 1) 0 by omega)
    omega
  rw [blen_shift h4, h3]
theorem nat_Bits {N : Nat} (h : (lim N).length ≤ 300000000) : Go.Ev.Fn CX 182 [natV (lim N)] (.int .i64 (blen N : Nat)) := by
  have t := nat_trim (lim N) (okL_lim N) (by omega)
  rw [wth_lim] at t
  by_cases h0 : N = 0
  · subst h0
    have e : (lim 0).length = 0 := by rw [lim_zero]; rfl
    have e2 : blen 0 = 0 := rfl
    rw [e2]
    refine Go.Ev.Fn.intro (fn := Tryz.f182) (body := (Tryz.f182).body.get!) (by kernel_rfl) (by kernel_rfl) (by kernel_rfl) (fun _ => rfl) (Nat.le_of_ble_eq_true (by kernel_rfl)) ?_; unfold Tryz.f182; simp only [Option.get!_some]
    repeat (first | (simp only [go_sem, Nat.reduceEqDiff, Nat.reduceAdd, Nat.reduceSub, Nat.reduceMul, Nat.reduceLeDiff, Nat.reduceLT, reduceIte, reduceCtorEq, Nat.succ_ne_zero, elemsC, Int.reduceToNat, Nat.reducePow]) | (simp (disch := (first | omega | (simp only [AL, List.length_map]; omega))) only [AR, AL, ifT, ifF, take_all, List.length_cons, List.length_nil, Int.reduceToNat, Int.reducePow, Nat.reducePow]) | (refine wk_intro (by kernel_rfl) ?_) | (refine vf_of (by first | exact t) ?_))
    rfl
  · have e := blen_lims N h0
    have hl := lim_pos h0
    have hg := getD_lt (okL_lim N) ((lim N).length - 1)
    have b := bits_Len32 _ hg
    have hb : blen ((lim N).getD ((lim N).length - 1) 0) ≤ 32 := blen_iff.2 hg
    rw [e]
    generalize hgx : (lim N).getD ((lim N).length - 1) 0 = x at *
    generalize hcs : lim N = cs at *
    have hi : (cs.map limb).length = cs.length := List.length_map _
    have hat : ((cs.map limb).drop (cs.length - 1)).head? = some (limb x) := by
      rw [List.head?_drop, List.getElem?_map, List.getElem?_eq_getElem (by omega)]
      rw [List.getD_eq_getElem?_getD, List.getElem?_eq_getElem (by omega)] at hgx
      rw [← hgx]; rfl
    generalize blen x = y at *
    refine Go.Ev.Fn.intro (fn := Tryz.f182) (body := (Tryz.f182).body.get!) (by kernel_rfl) (by kernel_rfl) (by kernel_rfl) (fun _ => rfl) (Nat.le_of_ble_eq_true (by kernel_rfl)) ?_; unfold Tryz.f182; simp only [Option.get!_some]
    repeat (first | (simp only [go_sem, Nat.reduceEqDiff, Nat.reduceAdd, Nat.reduceSub, Nat.reduceMul, Nat.reduceLeDiff, Nat.reduceLT, reduceIte, reduceCtorEq, Nat.succ_ne_zero, elemsC, Int.reduceToNat, Nat.reducePow, hgx]) | (simp (disch := (first | omega | (simp only [AL, List.length_map]; omega))) only [AR, AL, ifT, ifF, take_all, List.length_cons, List.length_nil, Int.reduceToNat, Int.reducePow, Nat.reducePow, hgx]) | (refine wk_intro (by kernel_rfl) ?_) | (refine vf_of (by first | exact t | exact b) ?_))
    congr 1
theorem fix_Small {a b : Nat} (h : (lim b).length ≤ 300000000) {k : Nat} (hk : k ≤ 1000) : Go.Ev.Fn CX 129 [spanV a b, .int .i64 (k : Int)] (.bool (decide (b < 2 ^ k))) := by
  have s := nat_Bits h
  rw [show decide (b < 2 ^ k) = decide (((blen b : Nat) : Int) ≤ (k : Int)) from decide_eq_decide.2 (by rw [← blen_iff]; omega)]
  generalize blen b = x at *
  refine Go.Ev.Fn.intro (fn := Tryz.f129) (body := (Tryz.f129).body.get!) (by kernel_rfl) (by kernel_rfl) (by kernel_rfl) (fun _ => rfl) (Nat.le_of_ble_eq_true (by kernel_rfl)) ?_; unfold Tryz.f129; simp only [Option.get!_some]
  repeat (first | (simp only [go_sem, Nat.reduceEqDiff, Nat.reduceAdd, Nat.reduceSub, Nat.reduceMul, Nat.reduceLeDiff, Nat.reduceLT, reduceIte, reduceCtorEq, Nat.succ_ne_zero, elemsC, Int.reduceToNat, Nat.reducePow]) | (simp (disch := (first | omega | (simp only [AL, List.length_map]; omega))) only [AR, AL, ifT, ifF, take_all, List.length_cons, List.length_nil, Int.reduceToNat, Int.reducePow, Nat.reducePow]) | (refine wk_intro (by kernel_rfl) ?_) | (refine vf_of (by first | exact s) ?_))
end Go.Proofs.YtemnjalaincijaaGreat

/- Pi, to so many digits: pure functions on naturals that mirror arcs.pi and vernierref8.PiIv; the kernel reckons them at all widths that are wanted. No program. -/
namespace Go.Ev
/-- A number is reckoned before it is handed on. -/
def pin {α : Type} (n : Nat) (f : Nat → α) : α := match n with
  | 0 => f 0
  | m + 1 => f (m + 1)
/-- arcs.angle's rounds: the terms by Euler's row, until the last one is small. -/
def angGo (w b1 b2 : Nat) : Nat → Nat → Nat → Nat → Nat → Nat → Option (Nat × Nat)
  | 0, _, _, _, _, _ => none
  | f + 1, k, t1, t2, a1, a2 => if t2 < 4 then some (a1, a2 + 8) else
    pin (t1 * b1 / 2 ^ w * (2 * k) / (2 * k + 1)) fun u1 => pin ((t2 * b2 / 2 ^ w + 1) * (2 * k) / (2 * k + 1) + 1) fun u2 =>
    pin (a1 + u1) fun c1 => pin (a2 + u2) fun c2 => pin (k + 1) fun k' => angGo w b1 b2 f k' u1 u2 c1 c2
def angF (n d w : Nat) : Option (Nat × Nat) :=
  pin (n * n * 2 ^ w / (n * n + d * d)) fun b1 => pin (n * d * 2 ^ w / (n * n + d * d)) fun t1 => angGo w b1 (b1 + 1) 1000 1 t1 (t1 + 1) t1 (t1 + 1)
/-- arcs.pi. -/
def piF (w : Nat) : Option (Nat × Nat) := match angF 1 5 w, angF 1 239 w with
  | some (a1, a2), some (b1, b2) => some (a1 * 16 - (b2 * 4 + 1), (a2 * 16 + 1 - b1 * 4) + 1)
  | _, _ => none
/-- The root of pi, times 2 to 400. -/
def rootPi : Nat := 4576918740415440415430138886030104330034393630387746481038405196946375920276839941112766425178723903652484208164514262098
/-- At so many digits pi lies between two whole numbers, for certain: and the constant's square does. -/
def piOk (p : Nat) : Bool := match piF (p + 64) with
  | some (lo, hi) => pin (lo / 2 ^ 64) fun a => Nat.beq a ((hi - 1) / 2 ^ 64) && (Nat.ble (a * 2 ^ (800 - p)) (rootPi * rootPi) && Nat.ble (rootPi * rootPi) ((a + 1) * 2 ^ (800 - p)))
  | none => false
def allFrom (f : Nat → Bool) : Nat → Nat → Bool
  | 0, _ => true
  | n + 1, k => f k && allFrom f n (k + 1)
theorem pi_ok : allFrom piOk 217 8 = true := by kernel_rfl
end Go.Ev

/- Numbers below a power of two, their limbs. -/
namespace Go.Proofs.YtemnjalaincijaaGreat
open Go.Ev
theorem pin_eq {α : Type} (n : Nat) (f : Nat → α) : pin n f = f n := by cases n <;> rfl
theorem lim_len_p2 {n w : Nat} (h : n ≤ 2 ^ w) (hw : w ≤ 1000) : (lim n).length ≤ 40 := by
  have l := lim_len_shl (a := 1) (n := w)
  have l1 := lim_len1
  rw [Nat.one_mul] at l
  have := lim_len_mono h
  omega
/-- There is a root, rounded down. -/
theorem sqrt_ex (a : Nat) : ∃ r, r * r ≤ a ∧ a < (r + 1) * (r + 1) := by
  induction a with
  | zero => exact ⟨0, by omega, by omega⟩
  | succ a ih =>
    obtain ⟨r, h1, h2⟩ := ih
    by_cases h : (r + 1) * (r + 1) ≤ a + 1
    · refine ⟨r + 1, h, ?_⟩
      have : (r + 1 + 1) * (r + 1 + 1) = (r + 1) * (r + 1) + (r + 1) + (r + 2) := by
        rw [Nat.add_mul, Nat.mul_add]; omega
      omega
    · exact ⟨r, by omega, by omega⟩
noncomputable def rtN (a : Nat) : Nat := (sqrt_ex a).choose
theorem rtN_le (a : Nat) : rtN a * rtN a ≤ a := (sqrt_ex a).choose_spec.1
theorem lt_rtN (a : Nat) : a < (rtN a + 1) * (rtN a + 1) := (sqrt_ex a).choose_spec.2
theorem rtN_eq {a r : Nat} (h1 : r * r ≤ a) (h2 : a < (r + 1) * (r + 1)) : r = rtN a := by
  have h3 := rtN_le a
  have h4 := lt_rtN a
  rcases Nat.lt_trichotomy r (rtN a) with h | h | h
  · have := Nat.mul_le_mul (show r + 1 ≤ rtN a from h) (show r + 1 ≤ rtN a from h)
    omega
  · exact h
  · have := Nat.mul_le_mul (show rtN a + 1 ≤ r from h) (show rtN a + 1 ≤ r from h)
    omega
theorem rtN_self (a : Nat) : rtN a ≤ a := by
  have := rtN_le a
  rcases Nat.eq_zero_or_pos (rtN a) with h | h
  · omega
  · have := Nat.le_mul_of_pos_left (rtN a) h
    omega
end Go.Proofs.YtemnjalaincijaaGreat

/- arcs: angle, pi, held, Pi; fix.Certain, in the evaluator. -/
namespace Go.Proofs.YtemnjalaincijaaGreat
set_option linter.unusedSimpArgs false
set_option linter.unusedVariables false
set_option maxRecDepth 8000
open Go.Ev
theorem times_le {x k : Nat} : (x + 1) * (2 * k) / (2 * k + 1) + 1 ≤ x + 2 := by
  have h : (x + 1) * (2 * k) / (2 * k + 1) ≤ x + 1 := (Nat.div_le_iff_le_mul (by omega)).2 (by have := Nat.mul_le_mul_left (x + 1) (show 2 * k ≤ 2 * k + 1 by omega); omega)
  omega
set_option maxHeartbeats 1000000 in
theorem arcs_angle {n d w A B : Nat} (hn : n ≤ 1000) (hd : d ≤ 1000) (hd0 : 0 < d) (hw : w ≤ 900) (hw0 : 0 < w) (h : angF n d w = some (A, B)) : Go.Ev.Fn CX 214 [natV (lim n), natV (lim d), .int .i64 (w : Int)] (spanV A B) := by
  unfold angF at h
  rw [pin_eq, pin_eq] at h
  have ln : (lim n).length ≤ 1 := lim_len_one (by omega)
  have ld : (lim d).length ≤ 1 := lim_len_one (by omega)
  have m1 := nat_MulL (N := n) (D := n) (by omega) (by omega)
  have m2 := nat_MulL (N := d) (D := d) (by omega) (by omega)
  have m3 := nat_MulL (N := n) (D := d) (by omega) (by omega)
  have lnn := lim_len_mul (a := n) (b := n)
  have ldd := lim_len_mul (a := d) (b := d)
  have lnd := lim_len_mul (a := n) (b := d)
  have s1 := nat_AddL (N := n * n) (D := d * d) (by omega) (by omega)
  have lsq := lim_len_add (a := n * n) (b := d * d) (L := 2) (by omega) (by omega)
  have hdd : 0 < d * d := Nat.mul_pos hd0 hd0
  have hnd : n * d ≤ n * n + d * d := by
    rcases Nat.le_total n d with g | g
    · have := Nat.mul_le_mul_right d g; omega
    · have := Nat.mul_le_mul_left n g; omega
  have o1 := fix_Of (n := n * n) (d := n * n + d * d) (w := w) (by omega) (by omega) (by omega) (by omega)
  have o2 := fix_Of (n := n * d) (d := n * n + d * d) (w := w) (by omega) (by omega) (by omega) (by omega)
  have hb1 : n * n * 2 ^ w / (n * n + d * d) < 2 ^ w := by
    rw [Nat.div_lt_iff_lt_mul (by omega), Nat.mul_comm (2 ^ w)]
    exact Nat.mul_lt_mul_of_pos_right (by omega) (Nat.pow_pos (by omega))
  have ht1 : n * d * 2 ^ w / (n * n + d * d) ≤ 2 ^ w := (Nat.div_le_iff_le_mul (by omega)).2 (by have := Nat.mul_le_mul_right (2 ^ w) hnd; rw [Nat.mul_comm (2 ^ w)]; omega)
  generalize n * n * 2 ^ w / (n * n + d * d) = b1 at *
  generalize n * d * 2 ^ w / (n * n + d * d) = t0 at *
  generalize n * n + d * d = sq at *
  generalize n * n = nn at *
  generalize d * d = dd at *
  generalize n * d = nd at *
  have hP : 0 < 2 ^ w := Nat.pow_pos (by omega)
  have lb := lim_len_p2 (n := b1) (w := w) (by omega) (by omega)
  have lb2 := lim_len_p2 (n := b1 + 1) (w := w) (by omega) (by omega)
  have big : 2 ^ w * 2048 = 2 ^ (w + 11) := by rw [Nat.pow_add]
  have big2 : 2 ^ (w + 11) * 2048 = 2 ^ (w + 22) := by rw [show w + 22 = (w + 11) + 11 by omega, Nat.pow_add 2 (w + 11) 11]
  refine Go.Ev.Fn.intro (fn := Tryz.f214) (body := (Tryz.f214).body.get!) (by kernel_rfl) (by kernel_rfl) (by kernel_rfl) (fun _ => rfl) (Nat.le_of_ble_eq_true (by kernel_rfl)) ?_; unfold Tryz.f214; simp only [Option.get!_some]
  repeat (first | (simp only [go_sem, Nat.reduceEqDiff, Nat.reduceAdd, Nat.reduceSub, Nat.reduceMul, Nat.reduceLeDiff, Nat.reduceLT, reduceIte, reduceCtorEq, Nat.succ_ne_zero, elemsC, Int.reduceToNat, Nat.reducePow]) | (simp (disch := (first | omega | (simp only [AL, List.length_map]; omega))) only [AR, AL, ifT, ifF, take_all, List.length_cons, List.length_nil, Int.reduceToNat, Int.reducePow, Nat.reducePow]) | (refine wk_intro (by kernel_rfl) ?_) | (refine vf_of (by first | exact m1 | exact m2 | exact s1 | exact o1 | exact m3 | exact o2) ?_))
  refine vp_loop_inv (fun s => s.tmp 2 = .sv (.int .i64 (w : Int)) ∧ s.tmp 6 = .ptr 6 0 0 ∧ s.obj 6 0 = some [.sl 0 [], .sl 0 []] ∧ s.tmp 8 = .ptr 8 0 0 ∧ s.obj 8 0 = some [natV (lim b1), natV (lim (b1 + 1))] ∧ s.tmp 9 = .ptr 9 0 0 ∧ s.tmp 10 = .ptr 10 0 0 ∧
      ∃ f k t1 t2 a1 a2 : Nat, s.tmp 11 = .sv (.int .u64 (k : Int)) ∧ f + k = 1001 ∧ 1 ≤ k ∧ angGo w b1 (b1 + 1) f k t1 t2 a1 a2 = some (A, B) ∧ s.obj 9 0 = some [natV (lim t1), natV (lim t2)] ∧ s.obj 10 0 = some [natV (lim a1), natV (lim a2)] ∧
        t1 ≤ t2 ∧ t2 ≤ 2 ^ w + 2 * k ∧ a1 ≤ a2 ∧ a2 ≤ k * 2 ^ (w + 11))
    (fun s => match s.tmp 11 with | .sv (.int _ i) => 1002 - i.toNat | _ => 0) ⟨rfl, rfl, rfl, rfl, rfl, rfl, rfl, 1000, 1, t0, t0 + 1, t0, t0 + 1, rfl, rfl, by omega, h, rfl, rfl, by omega, by omega, by omega, by omega⟩ ?_
  rintro s ⟨i2, i6, o6, i8, o8, i9, i10, f, k, t1, t2, a1, a2, i11, hfk, hk, hg, o9, o10, g1, g2, g3, g4⟩
  have hk2 : k * 2 ^ (w + 11) ≤ 1001 * 2 ^ (w + 11) := Nat.mul_le_mul_right _ (by omega)
  have lt2 := lim_len_p2 (n := t2) (w := w + 11) (by omega) (by omega)
  have lt1 := lim_len_p2 (n := t1) (w := w + 11) (by omega) (by omega)
  have la2 := lim_len_p2 (n := a2) (w := w + 22) (by omega) (by omega)
  have la1 := lim_len_p2 (n := a1) (w := w + 22) (by omega) (by omega)
  have sm := fix_Small (a := t1) (b := t2) (by omega) (k := 2) (by omega)
  cases f with
  | zero => simp only [angGo] at hg; cases hg
  | succ f =>
    rw [angGo] at hg
    simp only [pin_eq] at hg
    by_cases hs : t2 < 2 ^ 2
    · rw [decide_eq_true hs] at sm
      rw [if_pos (show t2 < 4 from hs)] at hg
      obtain ⟨rfl, rfl⟩ : a1 = A ∧ a2 + 8 = B := by simpa using hg
      have wd := fix_Wider (a := a1) (b := a2) (n := 8) (by omega) (by omega) (by omega)
      clear hg
      repeat (first | (simp only [go_sem, Nat.reduceEqDiff, Nat.reduceAdd, Nat.reduceSub, Nat.reduceMul, Nat.reduceLeDiff, Nat.reduceLT, reduceIte, reduceCtorEq, Nat.succ_ne_zero, elemsC, Int.reduceToNat, Nat.reducePow, i2, i6, o6, i8, o8, i9, i10, i11, o9, o10, Bool.not_true]) | (simp (disch := (first | omega | (simp only [AL, List.length_map]; omega))) only [AR, AL, ifT, ifF, take_all, List.length_cons, List.length_nil, Int.reduceToNat, Int.reducePow, Nat.reducePow, i2, i6, o6, i8, o8, i9, i10, i11, o9, o10, Bool.not_true]) | (refine wk_intro (by kernel_rfl) ?_) | (refine vf_of (by first | exact sm | exact wd) ?_))
    · rw [decide_eq_false hs] at sm
      rw [if_neg (show ¬ t2 < 4 from hs)] at hg
      have mu := fix_Mul (a := t1) (b := t2) (c := b1) (d := b1 + 1) (w := w) (by omega) (by omega) (by omega) (by omega) (by omega) hw0
      have q1 := nat_Of (2 * k) (by omega)
      have q2 := nat_Of (2 * k + 1) (by omega)
      have l1 : (lim (2 * k)).length ≤ 1 := lim_len_one (by omega)
      have l2 : (lim (2 * k + 1)).length ≤ 1 := lim_len_one (by omega)
      have hx : t2 * (b1 + 1) / 2 ^ w ≤ t2 := (Nat.div_le_iff_le_mul hP).2 (by have := Nat.mul_le_mul_left t2 (show b1 + 1 ≤ 2 ^ w by omega); omega)
      have hy : t1 * b1 / 2 ^ w ≤ t2 * (b1 + 1) / 2 ^ w := Nat.div_le_div_right (Nat.mul_le_mul g1 (by omega))
      generalize t1 * b1 / 2 ^ w = x1 at *
      generalize t2 * (b1 + 1) / 2 ^ w = x2 at *
      have lx2 := lim_len_p2 (n := x2 + 1) (w := w + 11) (by omega) (by omega)
      have lx1 := lim_len_p2 (n := x1) (w := w + 11) (by omega) (by omega)
      have ti := fix_Times (a := x1) (b := x2 + 1) (n := 2 * k) (d := 2 * k + 1) (by omega) (by omega) (by omega) (by omega) (by omega)
      have hz := times_le (x := x2) (k := k)
      have hz2 : x1 * (2 * k) / (2 * k + 1) ≤ (x2 + 1) * (2 * k) / (2 * k + 1) + 1 := Nat.le_succ_of_le (Nat.div_le_div_right (Nat.mul_le_mul_right _ (by omega)))
      generalize x1 * (2 * k) / (2 * k + 1) = u1 at *
      generalize (x2 + 1) * (2 * k) / (2 * k + 1) + 1 = u2 at *
      have lu2 := lim_len_p2 (n := u2) (w := w + 11) (by omega) (by omega)
      have lu1 := lim_len_p2 (n := u1) (w := w + 11) (by omega) (by omega)
      have ad := fix_Add (a := a1) (b := a2) (c := u1) (d := u2) (by omega) (by omega) (by omega) (by omega)
      have e1 : ((2 * k : Nat) : Int) = 2 * (k : Int) := by omega
      have e2 : ((2 * k + 1 : Nat) : Int) = 2 * (k : Int) + 1 := by omega
      rw [e1] at q1
      rw [e2] at q2
      repeat (first | (simp only [go_sem, Nat.reduceEqDiff, Nat.reduceAdd, Nat.reduceSub, Nat.reduceMul, Nat.reduceLeDiff, Nat.reduceLT, reduceIte, reduceCtorEq, Nat.succ_ne_zero, elemsC, Int.reduceToNat, Nat.reducePow, i2, i6, o6, i8, o8, i9, i10, i11, o9, o10, Bool.not_false]) | (simp (disch := (first | omega | (simp only [AL, List.length_map]; omega))) only [AR, AL, ifT, ifF, take_all, List.length_cons, List.length_nil, Int.reduceToNat, Int.reducePow, Nat.reducePow, i2, i6, o6, i8, o8, i9, i10, i11, o9, o10, Bool.not_false]) | (refine wk_intro (by kernel_rfl) ?_) | (refine vf_of (by first | exact sm | exact mu | exact q1 | exact q2 | exact ti | exact ad) ?_))
      exact ⟨⟨f, k + 1, u1, u2, a1 + u1, a2 + u2, rfl, by omega, by omega, hg, rfl, rfl, by omega, by omega, by omega, by rw [Nat.add_mul, Nat.one_mul]; omega⟩, by omega⟩
theorem fix_Certain1 {p sp lo hi : Nat} {f : FuncId} (hf : Go.Ev.Fn CX f [.int .i64 ((p + sp : Nat) : Int)] (spanV lo hi)) (hlo : (lim lo).length ≤ 1000) (hhi : (lim hi).length ≤ 1000) (hp : p ≤ 10000) (hsp : sp ≤ 1000) (hs0 : 0 < sp) (hc : lo / 2 ^ sp = (hi - 1) / 2 ^ sp) :
    Go.Ev.Fn CX 117 [.int .i64 (p : Int), .int .i64 (sp : Int), .fn f []] (ballR (mkRat ((lo / 2 ^ sp : Nat) : Int) (2 ^ p)) (mkRat ((lo / 2 ^ sp + 1 : Nat) : Int) (2 ^ p))) := by
  have fl := fix_Floor (a := lo) (b := hi) (w := p + sp) (p := p) (by omega) (by omega) (by omega) (by omega)
  rw [Nat.add_sub_cancel_left, decide_eq_true hc] at fl
  have o := fix_One
  have l1 := lim_len1
  have sh := fix_shl (a := 1) (m := p) (by omega) (by omega)
  have lp := lim_len_shl (a := 1) (n := p)
  rw [Nat.one_mul] at sh lp
  have ll := lim_len_mono (Nat.div_le_self lo (2 ^ sp))
  have n1 := fix_Next (a := lo / 2 ^ sp) (by omega)
  have l2 := lim_len_add (a := lo / 2 ^ sp) (b := 1) (L := 1000) (by omega) (by omega)
  have r1 := rat_OfL (s := false) (n := lo / 2 ^ sp) (d := 2 ^ p) (by omega) (by omega)
  have r2 := rat_OfL (s := false) (n := lo / 2 ^ sp + 1) (d := 2 ^ p) (by omega) (by omega)
  rw [show sgn false (lo / 2 ^ sp) = ((lo / 2 ^ sp : Nat) : Int) from rfl] at r1
  rw [show sgn false (lo / 2 ^ sp + 1) = ((lo / 2 ^ sp + 1 : Nat) : Int) from rfl] at r2
  generalize mkRat ((lo / 2 ^ sp : Nat) : Int) (2 ^ p) = q1 at *
  generalize mkRat ((lo / 2 ^ sp + 1 : Nat) : Int) (2 ^ p) = q2 at *
  generalize lo / 2 ^ sp + 1 = a' at *
  generalize lo / 2 ^ sp = a at *
  generalize 2 ^ p = P at *
  rw [show ((p + sp : Nat) : Int) = (p : Int) + (sp : Int) from rfl] at hf fl
  refine Go.Ev.Fn.intro (fn := Tryz.f117) (body := (Tryz.f117).body.get!) (by kernel_rfl) (by kernel_rfl) (by kernel_rfl) (fun _ => rfl) (Nat.le_of_ble_eq_true (by kernel_rfl)) ?_; unfold Tryz.f117; simp only [Option.get!_some]
  repeat (first | (simp only [go_sem, Nat.reduceEqDiff, Nat.reduceAdd, Nat.reduceSub, Nat.reduceMul, Nat.reduceLeDiff, Nat.reduceLT, reduceIte, reduceCtorEq, Nat.succ_ne_zero, elemsC, Int.reduceToNat, Nat.reducePow]) | (simp (disch := (first | omega | (simp only [AL, List.length_map]; omega))) only [AR, AL, ifT, ifF, take_all, List.length_cons, List.length_nil, Int.reduceToNat, Int.reducePow, Nat.reducePow]) | (refine wk_intro (by kernel_rfl) ?_))
  refine vp_loop_inv (fun s => s.tmp 0 = .sv (.int .i64 (p : Int)) ∧ s.tmp 2 = .sv (.fn f []) ∧ s.tmp 6 = .ptr 6 0 0 ∧ s.obj 6 0 = some [.bool false, .sl 0 [], .sl 0 [], .bool false, .sl 0 [], .sl 0 []] ∧ s.tmp 7 = .sv (.int .i64 ((p : Int) + (sp : Int)))) (fun _ => 0) ⟨rfl, rfl, rfl, rfl, rfl⟩ ?_
  rintro s ⟨i0, i2, i6, o6, i7⟩
  repeat (first | (simp only [go_sem, Nat.reduceEqDiff, Nat.reduceAdd, Nat.reduceSub, Nat.reduceMul, Nat.reduceLeDiff, Nat.reduceLT, reduceIte, reduceCtorEq, Nat.succ_ne_zero, elemsC, Int.reduceToNat, Nat.reducePow, i0, i2, i6, o6, i7]) | (simp (disch := (first | omega | (simp only [AL, List.length_map]; omega))) only [AR, AL, ifT, ifF, take_all, List.length_cons, List.length_nil, Int.reduceToNat, Int.reducePow, Nat.reducePow, i0, i2, i6, o6, i7]) | (refine wk_intro (by kernel_rfl) ?_) | (refine vf_of (by first | exact hf | exact fl | exact o | exact sh | exact r1 | exact n1 | exact r2) ?_))
theorem arcs_held (p : Int) : Go.Ev.Fn CX 189 [.int .i64 p] (.int .i64 (if p < 0 then 0 else if 512 < p then 512 else p)) := by
  by_cases h1 : p < 0
  · rw [if_pos h1]
    have e1 : (if (0 : Int) > p then (0 : Int) else p) = 0 := if_pos (by omega)
    refine Go.Ev.Fn.intro (fn := Tryz.f189) (body := (Tryz.f189).body.get!) (by kernel_rfl) (by kernel_rfl) (by kernel_rfl) (fun _ => rfl) (Nat.le_of_ble_eq_true (by kernel_rfl)) ?_; unfold Tryz.f189; simp only [Option.get!_some]
    repeat (first | (simp only [go_sem, Nat.reduceEqDiff, Nat.reduceAdd, Nat.reduceSub, Nat.reduceMul, Nat.reduceLeDiff, Nat.reduceLT, reduceIte, reduceCtorEq, Nat.succ_ne_zero, elemsC, Int.reduceToNat, Nat.reducePow, e1]) | (simp (disch := (first | omega | (simp only [AL, List.length_map]; omega))) only [AR, AL, ifT, ifF, take_all, List.length_cons, List.length_nil, Int.reduceToNat, Int.reducePow, Nat.reducePow, e1]) | (refine wk_intro (by kernel_rfl) ?_))
  · rw [if_neg h1]
    have e1 : (if (0 : Int) > p then (0 : Int) else p) = p := if_neg (by omega)
    by_cases h2 : 512 < p
    · rw [if_pos h2]
      have e2 : (if (512 : Int) < p then (512 : Int) else p) = 512 := if_pos h2
      refine Go.Ev.Fn.intro (fn := Tryz.f189) (body := (Tryz.f189).body.get!) (by kernel_rfl) (by kernel_rfl) (by kernel_rfl) (fun _ => rfl) (Nat.le_of_ble_eq_true (by kernel_rfl)) ?_; unfold Tryz.f189; simp only [Option.get!_some]
      repeat (first | (simp only [go_sem, Nat.reduceEqDiff, Nat.reduceAdd, Nat.reduceSub, Nat.reduceMul, Nat.reduceLeDiff, Nat.reduceLT, reduceIte, reduceCtorEq, Nat.succ_ne_zero, elemsC, Int.reduceToNat, Nat.reducePow, e1, e2]) | (simp (disch := (first | omega | (simp only [AL, List.length_map]; omega))) only [AR, AL, ifT, ifF, take_all, List.length_cons, List.length_nil, Int.reduceToNat, Int.reducePow, Nat.reducePow, e1, e2]) | (refine wk_intro (by kernel_rfl) ?_))
    · rw [if_neg h2]
      have e2 : (if (512 : Int) < p then (512 : Int) else p) = p := if_neg h2
      refine Go.Ev.Fn.intro (fn := Tryz.f189) (body := (Tryz.f189).body.get!) (by kernel_rfl) (by kernel_rfl) (by kernel_rfl) (fun _ => rfl) (Nat.le_of_ble_eq_true (by kernel_rfl)) ?_; unfold Tryz.f189; simp only [Option.get!_some]
      repeat (first | (simp only [go_sem, Nat.reduceEqDiff, Nat.reduceAdd, Nat.reduceSub, Nat.reduceMul, Nat.reduceLeDiff, Nat.reduceLT, reduceIte, reduceCtorEq, Nat.succ_ne_zero, elemsC, Int.reduceToNat, Nat.reducePow, e1, e2]) | (simp (disch := (first | omega | (simp only [AL, List.length_map]; omega))) only [AR, AL, ifT, ifF, take_all, List.length_cons, List.length_nil, Int.reduceToNat, Int.reducePow, Nat.reducePow, e1, e2]) | (refine wk_intro (by kernel_rfl) ?_))
theorem angGo_bd {w b1 b2 T : Nat} (hb : b1 ≤ b2) (hb2 : b2 ≤ 2 ^ w) : ∀ (f k t1 t2 a1 a2 : Nat) {A B : Nat}, angGo w b1 b2 f k t1 t2 a1 a2 = some (A, B) → t1 ≤ t2 → t2 + 2 * f ≤ T → a1 ≤ a2 → A ≤ B ∧ B ≤ a2 + f * T + 8 := by
  intro f
  induction f with
  | zero => intro k t1 t2 a1 a2 A B h; simp only [angGo] at h; cases h
  | succ f ih =>
    intro k t1 t2 a1 a2 A B h ht hT ha
    have hP : 0 < 2 ^ w := Nat.pow_pos (by omega)
    rw [angGo] at h
    simp only [pin_eq] at h
    rw [Nat.add_mul, Nat.one_mul]
    by_cases hs : t2 < 4
    · rw [if_pos hs] at h
      obtain ⟨rfl, rfl⟩ : a1 = A ∧ a2 + 8 = B := by simpa using h
      omega
    · rw [if_neg hs] at h
      have hx : t2 * b2 / 2 ^ w ≤ t2 := (Nat.div_le_iff_le_mul hP).2 (by have := Nat.mul_le_mul_left t2 hb2; omega)
      have hy : t1 * b1 / 2 ^ w ≤ t2 * b2 / 2 ^ w := Nat.div_le_div_right (Nat.mul_le_mul ht hb)
      have hz := times_le (x := t2 * b2 / 2 ^ w) (k := k)
      have hz2 : t1 * b1 / 2 ^ w * (2 * k) / (2 * k + 1) ≤ (t2 * b2 / 2 ^ w + 1) * (2 * k) / (2 * k + 1) + 1 := Nat.le_succ_of_le (Nat.div_le_div_right (Nat.mul_le_mul_right _ (by omega)))
      generalize t1 * b1 / 2 ^ w * (2 * k) / (2 * k + 1) = u1 at *
      generalize (t2 * b2 / 2 ^ w + 1) * (2 * k) / (2 * k + 1) + 1 = u2 at *
      have := ih _ _ _ _ _ h hz2 (by omega) (by omega)
      omega
theorem angF_bd {n d w A B : Nat} (hn0 : 0 < n) (hnd : n ≤ d) (hw : w ≤ 900) (hw0 : 11 ≤ w) (h : angF n d w = some (A, B)) : (lim A).length ≤ 40 ∧ (lim B).length ≤ 40 := by
  unfold angF at h
  rw [pin_eq, pin_eq] at h
  have hP : 0 < 2 ^ w := Nat.pow_pos (by omega)
  have h1 := Nat.mul_le_mul hnd hnd
  have h2 : n * d ≤ d * d := Nat.mul_le_mul_right _ hnd
  have h3 : 0 < n * n := Nat.mul_pos hn0 hn0
  have hb1 : n * n * 2 ^ w / (n * n + d * d) < 2 ^ w := by
    rw [Nat.div_lt_iff_lt_mul (by omega), Nat.mul_comm (2 ^ w)]
    exact Nat.mul_lt_mul_of_pos_right (by omega) hP
  have ht1 : n * d * 2 ^ w / (n * n + d * d) ≤ 2 ^ w := (Nat.div_le_iff_le_mul (by omega)).2 (by have := Nat.mul_le_mul_right (2 ^ w) (show n * d ≤ n * n + d * d by omega); rw [Nat.mul_comm (2 ^ w)]; omega)
  have hb := angGo_bd (T := 2 ^ w + 2001) (Nat.le_succ _) (by omega) _ _ _ _ _ _ h (by omega) (by omega) (by omega)
  have hbig : 2 ^ w * 4096 = 2 ^ (w + 12) := by rw [Nat.pow_add]
  have h11 : 2 ^ 11 ≤ 2 ^ w := Nat.pow_le_pow_right (by omega) hw0
  exact ⟨lim_len_p2 (w := w + 12) (by omega) (by omega), lim_len_p2 (w := w + 12) (by omega) (by omega)⟩
theorem arcs_pi {w A B : Nat} (hw : w ≤ 900) (hw0 : 11 ≤ w) (h : piF w = some (A, B)) : Go.Ev.Fn CX 190 [.int .i64 (w : Int)] (spanV A B) ∧ (lim A).length ≤ 100 ∧ (lim B).length ≤ 100 := by
  unfold piF at h
  split at h
  · rename_i a1 a2 b1 b2 h1 h2
    obtain ⟨rfl, rfl⟩ : a1 * 16 - (b2 * 4 + 1) = A ∧ a2 * 16 + 1 - b1 * 4 + 1 = B := by simpa using h
    clear h
    have an1 := arcs_angle (n := 1) (d := 5) (by omega) (by omega) (by omega) hw (by omega) h1
    have an2 := arcs_angle (n := 1) (d := 239) (by omega) (by omega) (by omega) hw (by omega) h2
    obtain ⟨g1, g2⟩ := angF_bd (by omega) (by omega) (by omega) hw0 h1
    obtain ⟨g3, g4⟩ := angF_bd (by omega) (by omega) (by omega) hw0 h2
    have o := fix_One
    have q5 := nat_Of 5 (by omega)
    have q239 := nat_Of 239 (by omega)
    have q16 := nat_Of 16 (by omega)
    have q4 := nat_Of 4 (by omega)
    have l16 : (lim 16).length ≤ 1 := lim_len_one (by decide)
    have l4 : (lim 4).length ≤ 1 := lim_len_one (by decide)
    have l1 := lim_len1
    have t1 := fix_Times (a := a1) (b := a2) (n := 16) (d := 1) (by omega) (by omega) (by omega) (by omega) (by omega)
    have t2 := fix_Times (a := b1) (b := b2) (n := 4) (d := 1) (by omega) (by omega) (by omega) (by omega) (by omega)
    rw [Nat.div_one, Nat.div_one] at t1 t2
    have e1 := lim_len_mul (a := a1) (b := 16)
    have e2 := lim_len_mul (a := a2) (b := 16)
    have e3 := lim_len_mul (a := b1) (b := 4)
    have e4 := lim_len_mul (a := b2) (b := 4)
    have e5 := lim_len_add (a := a2 * 16) (b := 1) (L := 50) (by omega) (by omega)
    have e6 := lim_len_add (a := b2 * 4) (b := 1) (L := 50) (by omega) (by omega)
    have sb := fix_Sub (a := a1 * 16) (b := a2 * 16 + 1) (c := b1 * 4) (d := b2 * 4 + 1) (by omega) (by omega) (by omega) (by omega)
    have e7 := lim_len_mono (Nat.sub_le (a1 * 16) (b2 * 4 + 1))
    have e8 := lim_len_mono (Nat.sub_le (a2 * 16 + 1) (b1 * 4))
    have e9 := lim_len_add (a := a2 * 16 + 1 - b1 * 4) (b := 1) (L := 60) (by omega) (by omega)
    refine ⟨?_, by omega, by omega⟩
    generalize a1 * 16 - (b2 * 4 + 1) = x1 at *
    generalize a2 * 16 + 1 - b1 * 4 + 1 = x2 at *
    generalize a2 * 16 + 1 = x3 at *
    generalize b2 * 4 + 1 = x4 at *
    generalize a1 * 16 = x5 at *
    generalize b1 * 4 = x6 at *
    refine Go.Ev.Fn.intro (fn := Tryz.f190) (body := (Tryz.f190).body.get!) (by kernel_rfl) (by kernel_rfl) (by kernel_rfl) (fun _ => rfl) (Nat.le_of_ble_eq_true (by kernel_rfl)) ?_; unfold Tryz.f190; simp only [Option.get!_some]
    repeat (first | (simp only [go_sem, Nat.reduceEqDiff, Nat.reduceAdd, Nat.reduceSub, Nat.reduceMul, Nat.reduceLeDiff, Nat.reduceLT, reduceIte, reduceCtorEq, Nat.succ_ne_zero, elemsC, Int.reduceToNat, Nat.reducePow]) | (simp (disch := (first | omega | (simp only [AL, List.length_map]; omega))) only [AR, AL, ifT, ifF, take_all, List.length_cons, List.length_nil, Int.reduceToNat, Int.reducePow, Nat.reducePow]) | (refine wk_intro (by kernel_rfl) ?_) | (refine vp_draw (id := 2) (l := [14, 15, 18, 19]) (by kernel_rfl) ?_) | (refine vf_of (by first | exact o | exact q5 | exact an1 | exact q239 | exact an2 | exact q16 | exact t1 | exact q4 | exact t2 | exact sb) ?_))
  · cases h
theorem allFrom_at {f : Nat → Bool} : ∀ {n k : Nat}, allFrom f n k = true → ∀ i, k ≤ i → i < k + n → f i = true := by
  intro n
  induction n with
  | zero => intro k _ i h1 h2; omega
  | succ n ih =>
    intro k h i h1 h2
    rw [allFrom, Bool.and_eq_true] at h
    rcases Nat.eq_or_lt_of_le h1 with h3 | h3
    · rw [← h3]; exact h.1
    · exact ih h.2 i h3 (by omega)
/-- Pi, to so many digits: the constant's square lies in it. -/
theorem arcs_Pi {p : Nat} (h1 : 8 ≤ p) (h2 : p < 225) : ∃ a : Nat, Go.Ev.Fn CX 149 [.int .i64 (p : Int)] (ballR (mkRat (a : Int) (2 ^ p)) (mkRat ((a + 1 : Nat) : Int) (2 ^ p))) ∧ a * 2 ^ (800 - p) ≤ rootPi * rootPi ∧ rootPi * rootPi ≤ (a + 1) * 2 ^ (800 - p) := by
  have h := allFrom_at pi_ok p h1 (by omega)
  unfold piOk at h
  split at h
  · rename_i lo hi hpi
    rw [pin_eq, Bool.and_eq_true, Bool.and_eq_true] at h
    obtain ⟨k1, k2, k3⟩ := h
    have k1 := Nat.eq_of_beq_eq_true k1
    have k2 := Nat.le_of_ble_eq_true k2
    have k3 := Nat.le_of_ble_eq_true k3
    obtain ⟨f, g1, g2⟩ := arcs_pi (by omega) (by omega) hpi
    have c := fix_Certain1 (p := p) (sp := 64) f (by omega) (by omega) (by omega) (by omega) (by omega) k1
    refine ⟨lo / 2 ^ 64, ?_, k2, k3⟩
    have hh := arcs_held (p : Int)
    rw [if_neg (by omega), if_neg (by omega)] at hh
    generalize mkRat ((lo / 2 ^ 64 : Nat) : Int) (2 ^ p) = q1 at *
    generalize mkRat ((lo / 2 ^ 64 + 1 : Nat) : Int) (2 ^ p) = q2 at *
    clear k2 k3 f hpi
    refine Go.Ev.Fn.intro (fn := Tryz.f149) (body := (Tryz.f149).body.get!) (by kernel_rfl) (by kernel_rfl) (by kernel_rfl) (fun _ => rfl) (Nat.le_of_ble_eq_true (by kernel_rfl)) ?_; unfold Tryz.f149; simp only [Option.get!_some]
    repeat (first | (simp only [go_sem, Nat.reduceEqDiff, Nat.reduceAdd, Nat.reduceSub, Nat.reduceMul, Nat.reduceLeDiff, Nat.reduceLT, reduceIte, reduceCtorEq, Nat.succ_ne_zero, elemsC, Int.reduceToNat, Nat.reducePow]) | (simp (disch := (first | omega | (simp only [AL, List.length_map]; omega))) only [AR, AL, ifT, ifF, take_all, List.length_cons, List.length_nil, Int.reduceToNat, Int.reducePow, Nat.reducePow]) | (refine wk_intro (by kernel_rfl) ?_) | (refine vf_of (by first | exact hh | exact c) ?_))
  · cases h
end Go.Proofs.YtemnjalaincijaaGreat

/- fix.Certain in as many rounds as it takes, in the evaluator. -/
namespace Go.Proofs.YtemnjalaincijaaGreat
set_option linter.unusedSimpArgs false
set_option linter.unusedVariables false
set_option maxRecDepth 8000
open Go.Ev
set_option linter.unusedVariables false
theorem least {P : Nat → Prop} {k : Nat} (h : P k) : ∃ j, P j ∧ j ≤ k ∧ ∀ i, i < j → ¬ P i := by
  induction k using Nat.strongRecOn with
  | _ k ih =>
    by_cases g : ∃ i, i < k ∧ P i
    · obtain ⟨i, hi, hp⟩ := g
      obtain ⟨j, h1, h2, h3⟩ := ih i hi hp
      exact ⟨j, h1, by omega, h3⟩
    · exact ⟨k, h, Nat.le_refl k, fun i hi hp => g ⟨i, hi, hp⟩⟩
/-- Doubled often enough. -/
theorem doubles {w0 M : Nat} (h0 : 0 < w0) (h : w0 ≤ M) : ∃ k, M ≤ w0 * 2 ^ k ∧ w0 * 2 ^ k < 2 * M := by
  have top : M ≤ w0 * 2 ^ M := Nat.le_trans (Nat.le_of_lt Nat.lt_two_pow_self) (Nat.le_mul_of_pos_left _ h0)
  obtain ⟨k, h1, -, h3⟩ := least (P := fun k => M ≤ w0 * 2 ^ k) top
  refine ⟨k, h1, ?_⟩
  cases k with
  | zero => rw [Nat.pow_zero, Nat.mul_one]; omega
  | succ k =>
    have := h3 k (Nat.lt_succ_self k)
    rw [Nat.pow_succ, ← Nat.mul_assoc]
    omega
section
variable {p sp M : Nat} {f : FuncId} {caps : List SV} {lo hi : Nat → Nat}
theorem certain_at (h0 : 0 < p + sp) (hM : p + sp ≤ M) (hc : ∀ w, M ≤ w → w < 2 * M → lo w / 2 ^ (w - p) = (hi w - 1) / 2 ^ (w - p)) :
    ∃ k, lo ((p + sp) * 2 ^ k) / 2 ^ ((p + sp) * 2 ^ k - p) = (hi ((p + sp) * 2 ^ k) - 1) / 2 ^ ((p + sp) * 2 ^ k - p) ∧ (p + sp) * 2 ^ k < 2 * M ∧ ∀ i, i < k → lo ((p + sp) * 2 ^ i) / 2 ^ ((p + sp) * 2 ^ i - p) ≠ (hi ((p + sp) * 2 ^ i) - 1) / 2 ^ ((p + sp) * 2 ^ i - p) := by
  obtain ⟨k0, a1, a2⟩ := doubles h0 hM
  obtain ⟨k, b1, b2, b3⟩ := least (P := fun k => lo ((p + sp) * 2 ^ k) / 2 ^ ((p + sp) * 2 ^ k - p) = (hi ((p + sp) * 2 ^ k) - 1) / 2 ^ ((p + sp) * 2 ^ k - p)) (hc _ a1 a2)
  refine ⟨k, b1, Nat.lt_of_le_of_lt (Nat.mul_le_mul_left _ (Nat.pow_le_pow_right (by omega) b2)) a2, b3⟩
set_option maxHeartbeats 1000000 in
theorem fix_CertainL (hsp : 0 < sp) (hM : p + sp ≤ M) (hM2 : M ≤ 200000000) (hp : p ≤ 10000) (hs : sp ≤ 10000)
    (hf : ∀ w : Nat, p + sp ≤ w → w < 2 * M → Go.Ev.Fn CX f (.int .i64 (w : Int) :: caps) (spanV (lo w) (hi w)))
    (hl : ∀ w : Nat, p + sp ≤ w → w < 2 * M → (lim (lo w)).length ≤ 50000000 ∧ (lim (hi w)).length ≤ 50000000 ∧ (lim (lo w / 2 ^ (w - p))).length ≤ 5000)
    (hc : ∀ w, M ≤ w → w < 2 * M → lo w / 2 ^ (w - p) = (hi w - 1) / 2 ^ (w - p)) :
    ∃ w, p + sp ≤ w ∧ w < 2 * M ∧ lo w / 2 ^ (w - p) = (hi w - 1) / 2 ^ (w - p) ∧
      Go.Ev.Fn CX 117 [.int .i64 (p : Int), .int .i64 (sp : Int), .fn f caps] (ballR (mkRat ((lo w / 2 ^ (w - p) : Nat) : Int) (2 ^ p)) (mkRat ((lo w / 2 ^ (w - p) + 1 : Nat) : Int) (2 ^ p))) := by
  obtain ⟨k, c1, c2, c3⟩ := certain_at (by omega) hM hc
  obtain ⟨W, hW⟩ : ∃ W, W = (p + sp) * 2 ^ k := ⟨_, rfl⟩
  have pk : ∀ i, p + sp ≤ (p + sp) * 2 ^ i := fun i => Nat.le_mul_of_pos_right _ (Nat.pow_pos (by omega))
  have mk : ∀ i, i ≤ k → (p + sp) * 2 ^ i ≤ W := fun i hi => by rw [hW]; exact Nat.mul_le_mul_left _ (Nat.pow_le_pow_right (by omega) hi)
  rw [← hW] at c1 c2
  refine ⟨W, by rw [hW]; exact pk k, c2, c1, ?_⟩
  obtain ⟨la, lb, lm⟩ := hl W (by rw [hW]; exact pk k) c2
  have hfW := hf W (by rw [hW]; exact pk k) c2
  have hpW : p < W := by have := pk k; omega
  have fl := fix_Floor (a := lo W) (b := hi W) (w := W) (p := p) (by omega) (by omega) hpW (by omega)
  rw [decide_eq_true c1] at fl
  have o := fix_One
  have l1 := lim_len1
  have sh := fix_shl (a := 1) (m := p) (by omega) (by omega)
  have lp := lim_len_shl (a := 1) (n := p)
  rw [Nat.one_mul] at sh lp
  have n1 := fix_Next (a := lo W / 2 ^ (W - p)) (by omega)
  have l2 := lim_len_add (a := lo W / 2 ^ (W - p)) (b := 1) (L := 5000) (by omega) (by omega)
  have r1 := rat_OfL (s := false) (n := lo W / 2 ^ (W - p)) (d := 2 ^ p) (by omega) (by omega)
  have r2 := rat_OfL (s := false) (n := lo W / 2 ^ (W - p) + 1) (d := 2 ^ p) (by omega) (by omega)
  rw [show sgn false (lo W / 2 ^ (W - p)) = ((lo W / 2 ^ (W - p) : Nat) : Int) from rfl] at r1
  rw [show sgn false (lo W / 2 ^ (W - p) + 1) = ((lo W / 2 ^ (W - p) + 1 : Nat) : Int) from rfl] at r2
  generalize mkRat ((lo W / 2 ^ (W - p) : Nat) : Int) (2 ^ p) = q1 at *
  generalize mkRat ((lo W / 2 ^ (W - p) + 1 : Nat) : Int) (2 ^ p) = q2 at *
  generalize lo W / 2 ^ (W - p) + 1 = a' at *
  generalize ha : lo W / 2 ^ (W - p) = a at *
  generalize 2 ^ p = P at *
  -- one round that is not the last
  have rd : ∀ i, i < k → ∃ x y : Nat, ∃ m : Nat, Go.Ev.Fn CX f (.int .i64 (((p + sp) * 2 ^ i : Nat) : Int) :: caps) (spanV x y) ∧ Go.Ev.Fn CX 176 [spanV x y, .int .i64 (((p + sp) * 2 ^ i : Nat) : Int), .int .i64 (p : Int)] (.tup [natV (lim m), .bool false]) := by
    intro i hi'
    have h1 := pk i
    have h2 := mk i (by omega)
    obtain ⟨xa, xb, -⟩ := hl ((p + sp) * 2 ^ i) h1 (by omega)
    have g := fix_Floor (a := lo ((p + sp) * 2 ^ i)) (b := hi ((p + sp) * 2 ^ i)) (w := (p + sp) * 2 ^ i) (p := p) (by omega) (by omega) (by omega) (by omega)
    rw [decide_eq_false (c3 i hi')] at g
    exact ⟨_, _, _, hf _ h1 (by omega), g⟩
  have dbl : ∀ i : Nat, i < k → (p + sp) * 2 ^ i * 2 = (p + sp) * 2 ^ (i + 1) := fun i _ => by rw [Nat.pow_succ, Nat.mul_assoc]
  clear hc hl hf c3 c1 la lb lm l2 lp l1
  refine Go.Ev.Fn.intro (fn := Tryz.f117) (body := (Tryz.f117).body.get!) (by kernel_rfl) (by kernel_rfl) (by kernel_rfl) (fun _ => rfl) (Nat.le_of_ble_eq_true (by kernel_rfl)) ?_; unfold Tryz.f117; simp only [Option.get!_some]
  repeat (first | (simp only [go_sem, Nat.reduceEqDiff, Nat.reduceAdd, Nat.reduceSub, Nat.reduceMul, Nat.reduceLeDiff, Nat.reduceLT, reduceIte, reduceCtorEq, Nat.succ_ne_zero, elemsC, Int.reduceToNat, Nat.reducePow]) | (simp (disch := (first | omega | (simp only [AL, List.length_map]; omega))) only [AR, AL, ifT, ifF, take_all, List.length_cons, List.length_nil, Int.reduceToNat, Int.reducePow, Nat.reducePow]) | (refine wk_intro (by kernel_rfl) ?_))
  refine vp_loop_inv (fun s => s.tmp 0 = .sv (.int .i64 (p : Int)) ∧ s.tmp 2 = .sv (.fn f caps) ∧ s.tmp 6 = .ptr 6 0 0 ∧ s.obj 6 0 = some [.bool false, .sl 0 [], .sl 0 [], .bool false, .sl 0 [], .sl 0 []] ∧ ∃ i : Nat, i ≤ k ∧ s.tmp 7 = .sv (.int .i64 (((p + sp) * 2 ^ i : Nat) : Int)))
    (fun s => match s.tmp 7 with | .sv (.int _ j) => 400000000 - j.toNat | _ => 0) ⟨rfl, rfl, rfl, rfl, 0, by omega, by rw [Nat.pow_zero, Nat.mul_one]; rfl⟩ ?_
  rintro s ⟨i0, i2, i6, o6, i, hi', i7⟩
  by_cases e : i = k
  · subst e
    rw [← hW] at i7
    clear rd dbl
    repeat (first | (simp only [go_sem, Nat.reduceEqDiff, Nat.reduceAdd, Nat.reduceSub, Nat.reduceMul, Nat.reduceLeDiff, Nat.reduceLT, reduceIte, reduceCtorEq, Nat.succ_ne_zero, elemsC, Int.reduceToNat, Nat.reducePow, i0, i2, i6, o6, i7]) | (simp (disch := (first | omega | (simp only [AL, List.length_map]; omega))) only [AR, AL, ifT, ifF, take_all, List.length_cons, List.length_nil, Int.reduceToNat, Int.reducePow, Nat.reducePow, i0, i2, i6, o6, i7]) | (refine wk_intro (by kernel_rfl) ?_) | (refine vf_of (by first | exact hfW | exact fl | exact o | exact sh | exact r1 | exact n1 | exact r2) ?_))
  · obtain ⟨x, y, m, g1, g2⟩ := rd i (by omega)
    have h1 := mk (i + 1) (by omega)
    have h3 := pk i
    have h2 := dbl i (by omega)
    have e2 : (((p + sp) * 2 ^ (i + 1) : Nat) : Int) = (((p + sp) * 2 ^ i : Nat) : Int) * 2 := by rw [← h2]; exact Int.natCast_mul _ _
    clear rd dbl hfW fl
    generalize hv : (p + sp) * 2 ^ (i + 1) = v at *
    generalize (p + sp) * 2 ^ i = u at *
    repeat (first | (simp only [go_sem, Nat.reduceEqDiff, Nat.reduceAdd, Nat.reduceSub, Nat.reduceMul, Nat.reduceLeDiff, Nat.reduceLT, reduceIte, reduceCtorEq, Nat.succ_ne_zero, elemsC, Int.reduceToNat, Nat.reducePow, i0, i2, i6, o6, i7]) | (simp (disch := (first | omega | (simp only [AL, List.length_map]; omega))) only [AR, AL, ifT, ifF, take_all, List.length_cons, List.length_nil, Int.reduceToNat, Int.reducePow, Nat.reducePow, i0, i2, i6, o6, i7]) | (refine wk_intro (by kernel_rfl) ?_) | (refine vf_of (by first | exact g1 | exact g2) ?_))
    exact ⟨⟨i + 1, by omega, by rw [hv, e2]⟩, by omega⟩
end
end Go.Proofs.YtemnjalaincijaaGreat

/- exps: row, near, Exp, in the evaluator. -/
namespace Go.Proofs.YtemnjalaincijaaGreat
set_option linter.unusedSimpArgs false
set_option linter.unusedVariables false
set_option maxRecDepth 8000
open Go.Ev
set_option linter.unusedVariables false
theorem lim_len_pw {n w : Nat} (h : n < 2 ^ w) : (lim n).length ≤ w / 32 + 1 := by
  refine lim_len_lt (Nat.lt_of_lt_of_le h ?_)
  rw [show (4294967296 : Nat) = 2 ^ 32 from rfl, ← Nat.pow_mul]
  exact Nat.pow_le_pow_right (by omega) (by omega)
set_option maxHeartbeats 1000000 in
theorem exps_row {w Y A B : Nat} (hw : 64 ≤ w) (hw2 : w ≤ 400000000) (hY : Y + 1 ≤ 2 ^ (w - 7)) (h : eRow w Y (w / 7 + 3) 1 (2 ^ w) (2 ^ w + 1) (2 ^ w) (2 ^ w + 1) = some (A, B)) :
    Go.Ev.Fn CX 178 [spanV Y (Y + 1), .int .i64 (w : Int)] (spanV A B) := by
  have un := fix_Unit (w := w) (by omega)
  have lw : w < 2 ^ w := Nat.lt_two_pow_self
  have e1 : 2 ^ (w + 1) = 2 ^ w * 2 := Nat.pow_succ _ _
  have e2 : 2 ^ (w + 2) = 2 ^ w * 4 := Nat.pow_add _ _ _
  have hYw : 2 ^ (w - 7) ≤ 2 ^ w := Nat.pow_le_pow_right (by omega) (by omega)
  have lY := lim_len_pw (n := Y) (w := w + 2) (by omega)
  have lY1 := lim_len_pw (n := Y + 1) (w := w + 2) (by omega)
  have i0 := eInv_0 w
  have lens := fun (n t1 t2 a1 a2 : Nat) (hn : n ≤ w / 7 + 4) (h : eInv w n t1 t2 a1 a2) => (show (lim t1).length ≤ 13000000 ∧ (lim t2).length ≤ 13000000 ∧ (lim a1).length ≤ 13000000 ∧ (lim a2).length ≤ 13000000 from by
    obtain ⟨q1, q2, q3, q4, q5, q6, q7, q8⟩ := h
    have a := lim_len_pw (n := t1) (w := w + 2) (by omega)
    have b := lim_len_pw (n := t2) (w := w + 2) (by omega)
    have c := lim_len_pw (n := a1) (w := w + 2) (by omega)
    have d := lim_len_pw (n := a2) (w := w + 2) (by omega)
    exact ⟨by omega, by omega, by omega, by omega⟩)
  have step := fun (n t1 t2 a1 a2 : Nat) (h : eInv w n t1 t2 a1 a2) => eInv_step (Y := Y) hw hY h
  generalize hP : 2 ^ w = P at un h i0
  clear e1 e2 lw
  refine Go.Ev.Fn.intro (fn := Tryz.f178) (body := (Tryz.f178).body.get!) (by kernel_rfl) (by kernel_rfl) (by kernel_rfl) (fun _ => rfl) (Nat.le_of_ble_eq_true (by kernel_rfl)) ?_; unfold Tryz.f178; simp only [Option.get!_some]
  repeat (first | (simp only [go_sem, Nat.reduceEqDiff, Nat.reduceAdd, Nat.reduceSub, Nat.reduceMul, Nat.reduceLeDiff, Nat.reduceLT, reduceIte, reduceCtorEq, Nat.succ_ne_zero, elemsC, Int.reduceToNat, Nat.reducePow]) | (simp (disch := (first | omega | (simp only [AL, List.length_map]; omega))) only [AR, AL, ifT, ifF, take_all, List.length_cons, List.length_nil, Int.reduceToNat, Int.reducePow, Nat.reducePow]) | (refine wk_intro (by kernel_rfl) ?_) | (refine vf_of (by first | exact un) ?_))
  refine vp_loop_inv (fun s => s.tmp 1 = .sv (.int .i64 (w : Int)) ∧ s.tmp 2 = .ptr 2 0 0 ∧ s.obj 2 0 = some [natV (lim Y), natV (lim (Y + 1))] ∧ s.tmp 4 = .ptr 4 0 0 ∧ s.obj 4 0 = some [.sl 0 [], .sl 0 []] ∧ s.tmp 5 = .ptr 5 0 0 ∧ s.tmp 6 = .ptr 6 0 0 ∧
      ∃ f n t1 t2 a1 a2 : Nat, s.tmp 7 = .sv (.int .u64 (n : Int)) ∧ f + n = w / 7 + 4 ∧ eRow w Y f n t1 t2 a1 a2 = some (A, B) ∧ s.obj 6 0 = some [natV (lim t1), natV (lim t2)] ∧ s.obj 5 0 = some [natV (lim a1), natV (lim a2)] ∧ eInv w n t1 t2 a1 a2)
    (fun s => match s.tmp 7 with | .sv (.int _ i) => w / 7 + 5 - i.toNat | _ => 0) ⟨rfl, rfl, rfl, rfl, rfl, rfl, rfl, w / 7 + 3, 1, P, P + 1, P, P + 1, rfl, by omega, h, rfl, rfl, i0⟩ ?_
  rintro s ⟨i1, i2, o2, i4, o4, i5, i6, f, n, t1, t2, a1, a2, i7, hfn, hgo, o6, o5, hok⟩
  obtain ⟨lt1, lt2, la1, la2⟩ := lens n t1 t2 a1 a2 (by omega) hok
  have hn1 := hok.1
  have st := step n t1 t2 a1 a2 hok
  have sm := fix_Small (a := t1) (b := t2) (by omega) (k := 1) (by omega)
  cases f with
  | zero => simp only [eRow] at hgo; cases hgo
  | succ f =>
    rw [eRow] at hgo
    by_cases hs : t2 < 2
    · rw [if_pos hs] at hgo
      simp only [Option.some.injEq, Prod.mk.injEq] at hgo
      obtain ⟨rfl, rfl⟩ := hgo
      rw [decide_eq_true (show t2 < 2 ^ 1 from hs)] at sm
      have wd := fix_Wider (a := a1) (b := a2) (n := 1) (by omega) (by omega) (by omega)
      clear step lens st h un
      repeat (first | (simp only [go_sem, Nat.reduceEqDiff, Nat.reduceAdd, Nat.reduceSub, Nat.reduceMul, Nat.reduceLeDiff, Nat.reduceLT, reduceIte, reduceCtorEq, Nat.succ_ne_zero, elemsC, Int.reduceToNat, Nat.reducePow, i1, i2, o2, i4, o4, i5, i6, i7, o5, o6, Bool.not_true]) | (simp (disch := (first | omega | (simp only [AL, List.length_map]; omega))) only [AR, AL, ifT, ifF, take_all, List.length_cons, List.length_nil, Int.reduceToNat, Int.reducePow, Nat.reducePow, i1, i2, o2, i4, o4, i5, i6, i7, o5, o6, Bool.not_true]) | (refine wk_intro (by kernel_rfl) ?_) | (refine vf_of (by first | exact sm | exact wd) ?_))
    · rw [if_neg hs] at hgo
      rw [decide_eq_false (show ¬ t2 < 2 ^ 1 from hs)] at sm
      obtain ⟨lu1, lu2, lb1, lb2⟩ := lens (n + 1) _ _ _ _ (by omega) st
      have mu := fix_Mul (a := t1) (b := t2) (c := Y) (d := Y + 1) (w := w) (by omega) (by omega) (by omega) (by omega) (by omega) (by omega)
      have o1 := fix_One
      have q1 := nat_Of n (by omega)
      have l1 := lim_len1
      have lq : (lim n).length ≤ 2 := lim_len_lt (by omega)
      have z1 := lim_len_mul (a := t1) (b := Y)
      have z2 := lim_len_mul (a := t2) (b := Y + 1)
      have z3 := lim_len_mono (Nat.div_le_self (t1 * Y) (2 ^ w))
      have z4 := lim_len_add (a := t2 * (Y + 1) / 2 ^ w) (b := 1) (L := 26000000) (Nat.le_trans (lim_len_mono (Nat.div_le_self (t2 * (Y + 1)) (2 ^ w))) (by omega)) (by omega)
      have ti := fix_Times (a := t1 * Y / 2 ^ w) (b := t2 * (Y + 1) / 2 ^ w + 1) (n := 1) (d := n) (by omega) (by omega) (by omega) (by omega) (by omega)
      generalize t1 * Y / 2 ^ w * 1 / n = u1 at *
      generalize (t2 * (Y + 1) / 2 ^ w + 1) * 1 / n + 1 = u2 at *
      generalize t1 * Y / 2 ^ w = v1 at *
      generalize t2 * (Y + 1) / 2 ^ w + 1 = v2 at *
      have ad := fix_Add (a := a1) (b := a2) (c := u1) (d := u2) (by omega) (by omega) (by omega) (by omega)
      clear step lens h un
      repeat (first | (simp only [go_sem, Nat.reduceEqDiff, Nat.reduceAdd, Nat.reduceSub, Nat.reduceMul, Nat.reduceLeDiff, Nat.reduceLT, reduceIte, reduceCtorEq, Nat.succ_ne_zero, elemsC, Int.reduceToNat, Nat.reducePow, i1, i2, o2, i4, o4, i5, i6, i7, o5, o6, Bool.not_false]) | (simp (disch := (first | omega | (simp only [AL, List.length_map]; omega))) only [AR, AL, ifT, ifF, take_all, List.length_cons, List.length_nil, Int.reduceToNat, Int.reducePow, Nat.reducePow, i1, i2, o2, i4, o4, i5, i6, i7, o5, o6, Bool.not_false]) | (refine wk_intro (by kernel_rfl) ?_) | (refine vf_of (by first | exact sm | exact mu | exact o1 | exact q1 | exact ti | exact ad) ?_))
      exact ⟨⟨f, n + 1, u1, u2, a1 + u1, a2 + u2, rfl, by omega, hgo, rfl, rfl, st⟩, by omega⟩
/-- What near reckons. -/
def nearS (n d w : Nat) (R : Nat × Nat) : Prop := ∃ A B : Nat, eRow w (n * 2 ^ w / (d * 2 ^ 14)) (w / 7 + 3) 1 (2 ^ w) (2 ^ w + 1) (2 ^ w) (2 ^ w + 1) = some (A, B) ∧ A ≤ B ∧ 2 ^ w ≤ A ∧ B < 2 ^ (w + 2) ∧ R = sqs w 14 A B
def nearR (neg : Bool) (w : Nat) (R : Nat × Nat) : Nat × Nat := if neg then (2 ^ (2 * w) / R.2, 2 ^ (2 * w) / R.1 + 1) else R
set_option maxHeartbeats 1000000 in
theorem exps_near {s : Bool} {n d w : Nat} {R : Nat × Nat} (hd : 0 < d) (h : n ≤ 64 * d) (hw : 160 ≤ w) (hw2 : w ≤ 200000000) (ln : (lim n).length ≤ 1000) (ld : (lim d).length ≤ 1000) (hR : nearS n d w R) :
    Go.Ev.Fn CX 119 [ratV s (lim n) (lim d), .int .i64 (w : Int)] (spanV (nearR s w R).1 (nearR s w R).2) := by
  obtain ⟨A, B, hr, hAB, hA, hB, rfl⟩ := hR
  have sh := fix_shl (a := d) (m := 14) (by omega) (by omega)
  have ls := lim_len_shl (a := d) (n := 14)
  have dp : 0 < d * 2 ^ 14 := by omega
  have of := fix_Of (n := n) (d := d * 2 ^ 14) (w := w) (by omega) (by omega) (by omega) (by omega)
  have hY : n * 2 ^ w / (d * 2 ^ 14) + 1 ≤ 2 ^ (w - 7) := by
    have e8 : 2 ^ w = 2 ^ (w - 8) * 256 := by rw [show (256 : Nat) = 2 ^ 8 from rfl, ← Nat.pow_add]; congr 1; omega
    have e7 : 2 ^ (w - 7) = 2 ^ (w - 8) * 2 := by rw [← Nat.pow_succ]; congr 1; omega
    have p8 : 0 < 2 ^ (w - 8) := Nat.pow_pos (by omega)
    have Yle : n * 2 ^ w / (d * 2 ^ 14) ≤ 2 ^ (w - 8) := by
      refine (Nat.div_le_iff_le_mul dp).2 ?_
      have m := Nat.mul_le_mul_right (2 ^ w) h
      have k : 64 * d * 2 ^ w = 2 ^ (w - 8) * (d * 2 ^ 14) := by
        rw [e8]; generalize 2 ^ (w - 8) = z; rw [show (2 : Nat) ^ 14 = 16384 from rfl]; grind
      omega
    omega
  have rw1 := exps_row (w := w) (by omega) (by omega) hY hr
  generalize hY' : n * 2 ^ w / (d * 2 ^ 14) = Y at *
  have e14 : d * 2 ^ 14 = d * 16384 := rfl
  generalize d * 2 ^ 14 = d' at *
  clear hr hY ln ld ls
  obtain ⟨c14, hc14⟩ : ∃ c : Nat, c = 32768 := ⟨_, rfl⟩
  have fin := sqs_ok (w := w) 14 A B 2 (B - A + 1) hA hAB hB (by omega) (by omega)
  obtain ⟨R1, R2, hRR⟩ : ∃ R1 R2 : Nat, sqs w 14 A B = (R1, R2) := ⟨_, _, rfl⟩
  rw [hRR] at fin ⊢
  obtain ⟨f1, f2, f3, -⟩ := fin
  rw [show 2 * 2 ^ 14 = c14 by omega] at f3
  simp only at f1 f2 f3
  have Pw : 0 < 2 ^ w := Nat.pow_pos (by omega)
  have lR1 := lim_len_pw (n := R1) (w := w + c14) (by omega)
  have lR2 := lim_len_pw (n := R2) (w := w + c14) (by omega)
  have inv := fix_Inverse (a := R1) (b := R2) (w := w) (by omega) (by omega) (by omega) (by omega) (by omega)
  have loop : ∀ (k lo hi c : Nat), 2 ^ w ≤ lo → lo ≤ hi → hi < 2 ^ (w + c) → c * 2 ^ k ≤ c14 → 1 ≤ k → (Go.Ev.Fn CX 60 [spanV lo hi, spanV lo hi, .int .i64 (w : Int)] (spanV (lo * lo / 2 ^ w) (hi * hi / 2 ^ w + 1)) ∧ 2 ^ w ≤ lo * lo / 2 ^ w ∧ lo * lo / 2 ^ w ≤ hi * hi / 2 ^ w + 1 ∧ hi * hi / 2 ^ w + 1 < 2 ^ (w + (c + c)) ∧ (c + c) * 2 ^ (k - 1) ≤ c14) := by
    intro k lo hi c h1 h2 h3 h4 h5
    obtain ⟨s1, s2, s3, -⟩ := sq_step h1 h2 h3 (G := hi - lo + 1) (by omega) (by omega)
    have hc : c ≤ c14 := Nat.le_trans (Nat.le_mul_of_pos_right _ (Nat.pow_pos (by omega))) h4
    have l1 := lim_len_pw (n := lo) (w := w + c) (by omega)
    have l2 := lim_len_pw (n := hi) (w := w + c) h3
    have mu := fix_Mul (a := lo) (b := hi) (c := lo) (d := hi) (w := w) (by omega) (by omega) (by omega) (by omega) (by omega) (by omega)
    refine ⟨mu, s1, s2, s3, ?_⟩
    have e : (c + c) * 2 ^ (k - 1) = c * 2 ^ k := by
      obtain ⟨j, rfl⟩ : ∃ j, k = j + 1 := ⟨k - 1, by omega⟩
      rw [Nat.add_sub_cancel, Nat.pow_succ, ← Nat.mul_two, Nat.mul_assoc, Nat.mul_comm 2]
    rw [e]; exact h4
  refine Go.Ev.Fn.intro (fn := Tryz.f119) (body := (Tryz.f119).body.get!) (by kernel_rfl) (by kernel_rfl) (by kernel_rfl) (fun _ => rfl) (Nat.le_of_ble_eq_true (by kernel_rfl)) ?_; unfold Tryz.f119; simp only [Option.get!_some]
  repeat (first | (simp only [go_sem, Nat.reduceEqDiff, Nat.reduceAdd, Nat.reduceSub, Nat.reduceMul, Nat.reduceLeDiff, Nat.reduceLT, reduceIte, reduceCtorEq, Nat.succ_ne_zero, elemsC, Int.reduceToNat, Nat.reducePow]) | (simp (disch := (first | omega | (simp only [AL, List.length_map]; omega))) only [AR, AL, ifT, ifF, take_all, List.length_cons, List.length_nil, Int.reduceToNat, Int.reducePow, Nat.reducePow]) | (refine wk_intro (by kernel_rfl) ?_) | (refine vp_draw (id := 1) (l := [10, 8, 11]) (by kernel_rfl) ?_) | (refine vf_of (by first | exact sh | exact of | exact rw1) ?_))
  refine vp_loop_inv (fun s' => s'.tmp 1 = .sv (.int .i64 (w : Int)) ∧ s'.tmp 2 = .ptr 2 0 0 ∧ s'.obj 2 0 = some [.bool s, natV (lim n), natV (lim d)] ∧ s'.tmp 4 = .ptr 4 0 0 ∧ s'.obj 4 0 = some [.sl 0 [], .sl 0 []] ∧ s'.tmp 6 = .ptr 6 0 0 ∧
      ∃ k lo hi c : Nat, s'.tmp 17 = .sv (.int .i64 ((14 - k : Nat) : Int)) ∧ k ≤ 14 ∧ s'.obj 6 0 = some [natV (lim lo), natV (lim hi)] ∧ sqs w k lo hi = (R1, R2) ∧ 2 ^ w ≤ lo ∧ lo ≤ hi ∧ hi < 2 ^ (w + c) ∧ c * 2 ^ k ≤ c14)
    (fun s' => match s'.tmp 17 with | .sv (.int _ i) => 15 - i.toNat | _ => 0) ⟨rfl, rfl, rfl, rfl, rfl, rfl, 14, A, B, 2, rfl, by omega, rfl, hRR, hA, hAB, hB, by omega⟩ ?_
  rintro s' ⟨i1, i2, o2, i4, o4, i6, k, lo, hi, c, i17, hk, o6, hsq, g1, g2, g3, g4⟩
  cases k with
  | zero =>
    have hsq' : (lo, hi) = (R1, R2) := hsq
    simp only [Prod.mk.injEq] at hsq'
    obtain ⟨rfl, rfl⟩ := hsq'
    clear loop
    cases s with
    | true =>
      show _
      unfold nearR
      rw [if_pos rfl]
      repeat (first | (simp only [go_sem, Nat.reduceEqDiff, Nat.reduceAdd, Nat.reduceSub, Nat.reduceMul, Nat.reduceLeDiff, Nat.reduceLT, reduceIte, reduceCtorEq, Nat.succ_ne_zero, elemsC, Int.reduceToNat, Nat.reducePow, i1, i2, o2, i4, o4, i6, i17, o6]) | (simp (disch := (first | omega | (simp only [AL, List.length_map]; omega))) only [AR, AL, ifT, ifF, take_all, List.length_cons, List.length_nil, Int.reduceToNat, Int.reducePow, Nat.reducePow, i1, i2, o2, i4, o4, i6, i17, o6]) | (refine wk_intro (by kernel_rfl) ?_) | (refine vp_draw (id := 1) (l := [10, 8, 11]) (by kernel_rfl) ?_) | (refine vf_of (by first | exact inv) ?_))
    | false =>
      unfold nearR
      rw [if_neg (by simp)]
      repeat (first | (simp only [go_sem, Nat.reduceEqDiff, Nat.reduceAdd, Nat.reduceSub, Nat.reduceMul, Nat.reduceLeDiff, Nat.reduceLT, reduceIte, reduceCtorEq, Nat.succ_ne_zero, elemsC, Int.reduceToNat, Nat.reducePow, i1, i2, o2, i4, o4, i6, i17, o6]) | (simp (disch := (first | omega | (simp only [AL, List.length_map]; omega))) only [AR, AL, ifT, ifF, take_all, List.length_cons, List.length_nil, Int.reduceToNat, Int.reducePow, Nat.reducePow, i1, i2, o2, i4, o4, i6, i17, o6]) | (refine wk_intro (by kernel_rfl) ?_) | (refine vp_draw (id := 1) (l := [10, 8, 11]) (by kernel_rfl) ?_))
  | succ k =>
    obtain ⟨mu, s1, s2, s3, s4⟩ := loop (k + 1) lo hi c g1 g2 g3 g4 (by omega)
    rw [Nat.add_sub_cancel] at s4
    have hsq' : sqs w k (lo * lo / 2 ^ w) (hi * hi / 2 ^ w + 1) = (R1, R2) := hsq
    clear loop hsq
    generalize lo * lo / 2 ^ w = lo' at *
    generalize hi * hi / 2 ^ w + 1 = hi' at *
    repeat (first | (simp only [go_sem, Nat.reduceEqDiff, Nat.reduceAdd, Nat.reduceSub, Nat.reduceMul, Nat.reduceLeDiff, Nat.reduceLT, reduceIte, reduceCtorEq, Nat.succ_ne_zero, elemsC, Int.reduceToNat, Nat.reducePow, i1, i2, o2, i4, o4, i6, i17, o6]) | (simp (disch := (first | omega | (simp only [AL, List.length_map]; omega))) only [AR, AL, ifT, ifF, take_all, List.length_cons, List.length_nil, Int.reduceToNat, Int.reducePow, Nat.reducePow, i1, i2, o2, i4, o4, i6, i17, o6]) | (refine wk_intro (by kernel_rfl) ?_) | (refine vp_draw (id := 1) (l := [10, 8, 11]) (by kernel_rfl) ?_) | (refine vf_of (by first | exact mu) ?_))
    exact ⟨⟨k, lo', hi', c + c, by congr 2; omega, by omega, rfl, hsq', s1, s2, s3, s4⟩, by omega⟩
end Go.Proofs.YtemnjalaincijaaGreat

/- exps.Exp: it ends, and has what it should, in the evaluator. -/
namespace Go.Proofs.YtemnjalaincijaaGreat
set_option linter.unusedSimpArgs false
set_option linter.unusedVariables false
set_option maxRecDepth 8000
open Go.Ev
set_option linter.unusedVariables false
/-- e to the power of x, by a cut row. -/
def evX (x : Rat) (L : Nat) : Rat := if x < 0 then 1 / Ex.E (-x) L else Ex.E x L
def nearF (n d w : Nat) : Nat × Nat := match eRow w (n * 2 ^ w / (d * 2 ^ 14)) (w / 7 + 3) 1 (2 ^ w) (2 ^ w + 1) (2 ^ w) (2 ^ w + 1) with
  | some (A, B) => sqs w 14 A B
  | none => (0, 0)
theorem nearF_ok {n d w g c : Nat} (hg : g = 32794) (hc : c = 32768) (hd : 0 < d) (h : n ≤ 64 * d) (hw : 160 ≤ w) :
    nearS n d w (nearF n d w) ∧ 2 ^ w ≤ (nearF n d w).1 ∧ (nearF n d w).1 < (nearF n d w).2 ∧ (nearF n d w).2 < 2 ^ (w + c) ∧ (nearF n d w).2 ≤ (nearF n d w).1 + w * 2 ^ g ∧
      ∀ x : Rat, x * (d : Rat) = (n : Rat) → ∃ s, ∀ L, s ≤ L → Enc w (nearF n d w).1 (nearF n d w).2 (Ex.E x L) := by
  obtain ⟨A, B, r1, r2, r3, r4, r5, r6, r7, r8, r9⟩ := near_ok hg hc hd h hw
  have e : nearF n d w = sqs w 14 A B := by unfold nearF; rw [r1]
  rw [e]
  have strict : ∀ (k lo hi : Nat), lo ≤ hi → (sqs w (k + 1) lo hi).1 < (sqs w (k + 1) lo hi).2 := by
    intro k
    induction k with
    | zero =>
      intro lo hi h
      show lo * lo / 2 ^ w < hi * hi / 2 ^ w + 1
      exact Nat.lt_succ_of_le (Nat.div_le_div_right (Nat.mul_le_mul h h))
    | succ k ih =>
      intro lo hi h
      exact ih _ _ (Nat.le_succ_of_le (Nat.div_le_div_right (Nat.mul_le_mul h h)))
  exact ⟨⟨A, B, r1, r2, r3, r4, rfl⟩, r5, strict 13 A B r2, r7, r8, r9⟩
theorem exps_Exp1 {s : Bool} {n d : List Nat} {w : Nat} {r1 r2 : Nat} (h : Go.Ev.Fn CX 119 [ratV s n d, .int .i64 (w : Int)] (spanV r1 r2)) :
    Go.Ev.Fn CX 118 [.int .i64 (w : Int), .mem [.bool s, natV n, natV d]] (spanV r1 r2) := by
  refine Go.Ev.Fn.intro (fn := Tryz.f118) (body := (Tryz.f118).body.get!) (by kernel_rfl) (by kernel_rfl) (by kernel_rfl) (fun _ => rfl) (Nat.le_of_ble_eq_true (by kernel_rfl)) ?_; unfold Tryz.f118; simp only [Option.get!_some]
  repeat (first | (simp only [go_sem, Nat.reduceEqDiff, Nat.reduceAdd, Nat.reduceSub, Nat.reduceMul, Nat.reduceLeDiff, Nat.reduceLT, reduceIte, reduceCtorEq, Nat.succ_ne_zero, elemsC, Int.reduceToNat, Nat.reducePow]) | (simp (disch := (first | omega | (simp only [AL, List.length_map]; omega))) only [AR, AL, ifT, ifF, take_all, List.length_cons, List.length_nil, Int.reduceToNat, Int.reducePow, Nat.reducePow]) | (refine wk_intro (by kernel_rfl) ?_) | (refine vf_of (by first | exact h) ?_))
theorem neg_numX {x : Rat} : decide (x.num < 0) = decide (x < 0) := by
  have h := Rat.num_nonneg (q := x)
  refine decide_eq_decide.2 ⟨fun g => ?_, fun g => ?_⟩
  · have : ¬ 0 ≤ x := fun k => absurd (h.2 k) (by omega)
    grind
  · rcases Int.lt_or_le x.num 0 with k | k
    · exact k
    · exact absurd (h.1 k) (by grind)
section
variable {v : SV} {x : Rat} {L P : Nat} {pI : Int}
/-- Where it ends. -/
theorem exp_end {n d : Nat} {neg : Bool} (hn0 : 0 < n) (hd : 0 < d) (h : n ≤ 64 * d) (hd2 : d ≤ 2 ^ 240) (hP : P ≤ 512) (ln : (lim n).length ≤ 1000) (ld : (lim d).length ≤ 1000) :
    ∃ m s0 : Nat, (lim m).length ≤ 5000 ∧ Go.Ev.Fn CX 117 [.int .i64 (P : Int), .int .i64 160, .fn 118 [.mem [.bool neg, natV (lim n), natV (lim d)]]] (ballR (mkRat (m : Int) (2 ^ P)) (mkRat ((m + 1 : Nat) : Int) (2 ^ P))) ∧
      ∀ x : Rat, x * (d : Rat) = (n : Rat) → ∃ s0, ∀ L, s0 ≤ L → Enc P m (m + 1) (if neg then 1 / Ex.E x L else Ex.E x L) := by
  obtain ⟨g, hg⟩ : ∃ g : Nat, g = 32794 := ⟨_, rfl⟩
  obtain ⟨c, hc⟩ : ∃ g : Nat, g = 32768 := ⟨_, rfl⟩
  have ok := fun w (hw : 160 ≤ w) => nearF_ok (n := n) (d := d) (w := w) hg hc hd h hw
  have dR : (0 : Rat) < (d : Rat) := by exact_mod_cast hd
  obtain ⟨q, hq⟩ : ∃ q : Rat, q = (n : Rat) / (d : Rat) := ⟨_, rfl⟩
  have qd : q * (d : Rat) = (n : Rat) := by rw [hq]; exact Rat.div_mul_cancel (by grind)
  have q64 : q ≤ 64 := by
    refine le_by dR ?_
    rw [qd]
    have : ((n : Nat) : Rat) ≤ ((64 * d : Nat) : Rat) := Ex.castle h
    rw [Ex.castmul] at this; exact this
  have cert : ∀ w, 71000000 ≤ w → w < 2 * 71000000 → (nearR neg w (nearF n d w)).1 / 2 ^ (w - P) = ((nearR neg w (nearF n d w)).2 - 1) / 2 ^ (w - P) := by
    intro w hw hw2
    obtain ⟨-, o1, o2, o3, o4, o5⟩ := ok w (by omega)
    obtain ⟨s, hs⟩ := o5 q qd
    have w40 : w ≤ 2 ^ 40 := by omega
    cases neg with
    | false =>
      unfold nearR
      rw [if_neg (by simp)]
      exact cert_pos hn0 hd hd2 qd q64 hP (by omega) o2 o4 hs hw w40
    | true =>
      unfold nearR
      rw [if_pos rfl]
      exact cert_neg hn0 hd hd2 qd q64 hP (by omega) o1 o2 o4 hs hw w40
  have size : ∀ w, 160 ≤ w → w < 2 * 71000000 → P ≤ w → (nearR neg w (nearF n d w)).1 < 2 ^ (w + c) ∧ (nearR neg w (nearF n d w)).2 < 2 ^ (w + c) := by
    intro w hw hw2 hPw
    obtain ⟨-, o1, o2, o3, o4, -⟩ := ok w hw
    cases neg with
    | false =>
      unfold nearR
      rw [if_neg (by simp)]
      exact ⟨by omega, o3⟩
    | true =>
      unfold nearR
      rw [if_pos rfl]
      have Pw : 0 < 2 ^ w := Nat.pow_pos (by omega)
      have e2 : 2 ^ (2 * w) = 2 ^ w * 2 ^ w := by rw [← Nat.pow_add]; congr 1; omega
      have big : 2 ^ w * 4 ≤ 2 ^ (w + c) := by
        rw [show (4 : Nat) = 2 ^ 2 from rfl, ← Nat.pow_add]
        exact Nat.pow_le_pow_right (by omega) (by omega)
      have one : ∀ z : Nat, 2 ^ w ≤ z → 2 ^ (2 * w) / z ≤ 2 ^ w := by
        intro z hz
        refine (Nat.div_le_iff_le_mul (by omega)).2 ?_
        rw [e2]
        have := Nat.mul_le_mul_left (2 ^ w) hz
        omega
      have a := one (nearF n d w).2 (by omega)
      have b := one (nearF n d w).1 o1
      constructor
      · show 2 ^ (2 * w) / (nearF n d w).2 < _
        omega
      · show 2 ^ (2 * w) / (nearF n d w).1 + 1 < _
        omega
  obtain ⟨w, w1, w2, w3, fn⟩ := fix_CertainL (p := P) (sp := 160) (M := 71000000) (f := 118) (caps := [.mem [.bool neg, natV (lim n), natV (lim d)]]) (lo := fun w => (nearR neg w (nearF n d w)).1) (hi := fun w => (nearR neg w (nearF n d w)).2) (by omega) (by omega) (by omega) (by omega) (by omega)
    (fun w hw hw2 => exps_Exp1 (exps_near hd h (by omega) (by omega) ln ld (ok w (by omega)).1))
    (fun w hw hw2 => by
      obtain ⟨z1, z2⟩ := size w (by omega) hw2 (by omega)
      have a := lim_len_pw z1
      have b := lim_len_pw z2
      have m : (nearR neg w (nearF n d w)).1 / 2 ^ (w - P) < 2 ^ (P + c) := by
        refine (Nat.div_lt_iff_lt_mul (Nat.pow_pos (by omega))).2 ?_
        rw [← Nat.pow_add, show P + c + (w - P) = w + c by omega]; exact z1
      have l := lim_len_pw m
      exact ⟨by omega, by omega, by omega⟩)
    cert
  obtain ⟨z1, -⟩ := size w (by omega) w2 (by omega)
  obtain ⟨-, o1, o2, o3, o4, o5⟩ := ok w (by omega)
  obtain ⟨m, hm⟩ : ∃ m, m = (nearR neg w (nearF n d w)).1 / 2 ^ (w - P) := ⟨_, rfl⟩
  have lm : m < 2 ^ (P + c) := by
    rw [hm]
    refine (Nat.div_lt_iff_lt_mul (Nat.pow_pos (by omega))).2 ?_
    rw [← Nat.pow_add, show P + c + (w - P) = w + c by omega]; exact z1
  have ll := lim_len_pw lm
  refine ⟨m, 0, by omega, by rw [hm]; exact fn, fun x hx => ?_⟩
  obtain ⟨s0, hs⟩ := o5 x hx
  refine ⟨s0, fun L hL => ?_⟩
  have en : Enc w (nearR neg w (nearF n d w)).1 (nearR neg w (nearF n d w)).2 (if neg then 1 / Ex.E x L else Ex.E x L) := by
    cases neg with
    | false =>
      unfold nearR
      rw [if_neg (by simp), if_neg (by simp)]
      exact hs L hL
    | true =>
      unfold nearR
      rw [if_pos rfl, if_pos rfl]
      exact (enc_inv (by have : 0 < 2 ^ w := Nat.pow_pos (by omega); omega) (hs L hL)).1
  have pos2 : 0 < (nearR neg w (nearF n d w)).2 := by
    cases neg with
    | false => unfold nearR; rw [if_neg (by simp)]; omega
    | true => unfold nearR; rw [if_pos rfl]; exact Nat.succ_pos _
  have w3' : m = ((nearR neg w (nearF n d w)).2 - 1) / 2 ^ (w - P) := by rw [hm]; exact w3
  generalize (if neg then 1 / Ex.E x L else Ex.E x L) = z at *
  generalize (nearR neg w (nearF n d w)).1 = lo at *
  generalize (nearR neg w (nearF n d w)).2 = hi at *
  have Pw := p2_pos (w - P)
  have e : p2 w = p2 P * p2 (w - P) := by
    have : w = P + (w - P) := by omega
    have e2 : 2 ^ w = 2 ^ P * 2 ^ (w - P) := by rw [← Nat.pow_add]; congr 1
    show ((2 ^ w : Nat) : Rat) = _
    rw [e2]; exact Ex.castmul _ _
  obtain ⟨b1, b2⟩ := en
  rw [e, ← Rat.mul_assoc] at b1 b2
  constructor
  · refine le_by Pw ?_
    have k : m * 2 ^ (w - P) ≤ lo := by rw [hm]; exact Nat.div_mul_le_self _ _
    have k2 := Ex.castle k
    rw [Ex.castmul] at k2
    exact Rat.le_trans k2 b1
  · refine le_by Pw ?_
    have k : hi ≤ (m + 1) * 2 ^ (w - P) := by
      have := Nat.lt_mul_div_succ (hi - 1) (show 0 < 2 ^ (w - P) from Nat.pow_pos (by omega))
      rw [← w3', Nat.mul_comm] at this
      omega
    have k2 := Ex.castle k
    rw [Ex.castmul] at k2
    exact Rat.le_trans b2 k2
theorem exps_Exp (hv : RatA v x L) (hL1 : 1 ≤ L) (hL : L ≤ 100) (hx0 : x ≠ 0) (h1 : -64 ≤ x) (h2 : x ≤ 64) (hd : x.den ≤ 2 ^ 240) (hP : P ≤ 512) (hpI : (pI ≤ 0 ∧ P = 0) ∨ pI = (P : Int)) :
    ∃ m : Nat, (lim m).length ≤ 5000 ∧ Go.Ev.Fn CX 58 [v, .int .i64 pI] (.tup [ballR (mkRat (m : Int) (2 ^ P)) (mkRat ((m + 1 : Nat) : Int) (2 ^ P)), .bool true]) ∧ ∃ s0, ∀ L, s0 ≤ L → Enc P m (m + 1) (evX x L) := by
  have zx := szR_of hv hL1
  have n1 := rat_Norm hv (by omega)
  have im := rat_Int (-64) (by omega)
  have ip := rat_Int 64 (by omega)
  have c1 := rat_Cmp (RatA_rv zx) (RatA_rv (int_szR (n := -64) (by omega))) hL1 (by omega) (by omega)
  have c2 := rat_Cmp (RatA_rv zx) (RatA_rv (int_szR (n := 64) (by omega))) hL1 (by omega) (by omega)
  have zr := rat_Zero (RatA_rv zx) hL1 (by omega)
  rw [decide_eq_false hx0] at zr
  have e1 : decide (cmpR x ((-64 : Int) : Rat) < 0) = false := by rw [cmpR_lt]; exact decide_eq_false (Rat.not_lt.2 h1)
  have e2 : decide (cmpR x ((64 : Int) : Rat) > 0) = false := by rw [cmpR_gt]; exact decide_eq_false (Rat.not_lt.2 h2)
  have dp := x.den_pos
  have dR : (0 : Rat) < (x.den : Rat) := by exact_mod_cast dp
  have nd := Ex.denR x
  have n0 : 0 < x.num.natAbs := by
    have : x.num ≠ 0 := fun e => hx0 (num_zero.1 e)
    omega
  have xm : x.num ≤ 64 * (x.den : Int) ∧ -(64 * (x.den : Int)) ≤ x.num := by
    constructor
    · have m := Rat.mul_le_mul_of_nonneg_right h2 (Rat.le_of_lt dR)
      rw [nd] at m
      have : (x.num : Rat) ≤ ((64 * (x.den : Int) : Int) : Rat) := by rw [Rat.intCast_mul]; exact m
      exact Rat.intCast_le_intCast.1 this
    · have m := Rat.mul_le_mul_of_nonneg_right h1 (Rat.le_of_lt dR)
      rw [nd] at m
      have : ((-(64 * (x.den : Int)) : Int) : Rat) ≤ (x.num : Rat) := by
        rw [Rat.intCast_neg, Rat.intCast_mul]
        have e : -(((64 : Int) : Rat) * ((x.den : Int) : Rat)) = -64 * (x.den : Rat) := by
          have e3 : ((x.den : Int) : Rat) = (x.den : Rat) := rfl
          have e4 : ((64 : Int) : Rat) = 64 := rfl
          rw [e3, e4]; grind
        rw [e]; exact m
      exact Rat.intCast_le_intCast.1 this
  obtain ⟨m, -, lm, fn, en⟩ := exp_end (P := P) (n := x.num.natAbs) (d := x.den) (neg := decide (x.num < 0)) n0 dp (by omega) hd hP (Nat.le_trans zx.1 (by omega)) (Nat.le_trans zx.2 (by omega))
  have x1 : (if (0 : Int) > pI then (0 : Int) else pI) = (P : Int) := by split <;> omega
  have x2 : (if (512 : Int) < (P : Int) then (512 : Int) else (P : Int)) = (P : Int) := if_neg (by omega)
  refine ⟨m, lm, ?_, ?_⟩
  · clear en nd xm zx h1 h2 hx0 hpI
    obtain ⟨s, n, d, rfl, -⟩ := hv
    generalize mkRat (m : Int) (2 ^ P) = q1 at *
    generalize mkRat ((m + 1 : Nat) : Int) (2 ^ P) = q2 at *
    generalize cmpR x ((-64 : Int) : Rat) = y1 at *
    generalize cmpR x ((64 : Int) : Rat) = y2 at *
    refine Go.Ev.Fn.intro (fn := Tryz.f58) (body := (Tryz.f58).body.get!) (by kernel_rfl) (by kernel_rfl) (by kernel_rfl) (fun _ => rfl) (Nat.le_of_ble_eq_true (by kernel_rfl)) ?_; unfold Tryz.f58; simp only [Option.get!_some]
    repeat (first | (simp only [go_sem, Nat.reduceEqDiff, Nat.reduceAdd, Nat.reduceSub, Nat.reduceMul, Nat.reduceLeDiff, Nat.reduceLT, reduceIte, reduceCtorEq, Nat.succ_ne_zero, elemsC, Int.reduceToNat, Nat.reducePow, x1, x2, e1, e2, List.size_toArray, Array.size_empty]) | (simp (disch := (first | omega | (simp only [AL, List.length_map]; omega))) only [AR, AL, ifT, ifF, take_all, List.length_cons, List.length_nil, Int.reduceToNat, Int.reducePow, Nat.reducePow, x1, x2, e1, e2, List.size_toArray, Array.size_empty]) | (refine wk_intro (by kernel_rfl) ?_) | (refine vp_draw (id := 2) (l := []) (by kernel_rfl) ?_) | (refine vf_of (by first | exact n1 | exact im | exact c1 | exact ip | exact c2 | exact zr | exact fn) ?_))
  · by_cases hneg : x.num < 0
    · have xneg : x < 0 := by
        have := neg_numX (x := x)
        rw [decide_eq_true hneg] at this
        exact of_decide_eq_true this.symm
      obtain ⟨s0, hs⟩ := en (-x) (by
        have e : (x.num.natAbs : Int) = -x.num := by omega
        have e2 : ((x.num.natAbs : Nat) : Rat) = ((x.num.natAbs : Int) : Rat) := rfl
        rw [e2, e, Rat.intCast_neg, ← nd]; grind)
      rw [decide_eq_true hneg] at hs
      refine ⟨s0, fun L hL => ?_⟩
      unfold evX
      rw [if_pos xneg]
      exact hs L hL
    · have xpos : ¬ x < 0 := by
        have := neg_numX (x := x)
        rw [decide_eq_false hneg] at this
        exact of_decide_eq_false this.symm
      obtain ⟨s0, hs⟩ := en x (by
        have e : (x.num.natAbs : Int) = x.num := by omega
        have e2 : ((x.num.natAbs : Nat) : Rat) = ((x.num.natAbs : Int) : Rat) := rfl
        rw [e2, e, ← nd])
      rw [decide_eq_false hneg] at hs
      refine ⟨s0, fun L hL => ?_⟩
      unfold evX
      rw [if_neg xpos]
      exact hs L hL
end
end Go.Proofs.YtemnjalaincijaaGreat

/- Rows whose terms are each a number by k times the one ahead: they end. Plain mathematics. -/
namespace Go.Proofs.YtemnjalaincijaaGreat
open Go.Ev
set_option linter.unusedVariables false
/-- The row of incg and of bell, in naturals: from k on; the last term is below 4. -/
def tRow (w Y1 Y2 M : Nat) : Nat → Nat → Nat → Nat → Nat → Nat → Option (Nat × Nat)
  | 0, _, _, _, _, _ => none
  | f + 1, k, t1, t2, a1, a2 => if M ≤ k ∧ t2 < 4 then some (a1, a2 + 8) else
      tRow w Y1 Y2 M f (k + 2) (t1 * Y1 / 2 ^ w * 1 / k) ((t2 * Y2 / 2 ^ w + 1) * 1 / k + 1) (a1 + t1 * Y1 / 2 ^ w * 1 / k) (a2 + ((t2 * Y2 / 2 ^ w + 1) * 1 / k + 1))
/-- What holds behind i steps, from k0 on. -/
def tInv (w k0 i k t1 t2 a1 a2 : Nat) : Prop := k = k0 + 2 * i ∧ t1 ≤ t2 ∧ a1 ≤ a2 ∧ t2 < 2 ^ (w + 9 + 9 * min i 1024) ∧ a2 < (i + 2) * 2 ^ (w + 10000)
theorem tInv_0 {w k0 t1 t2 a1 a2 : Nat} (h1 : t1 ≤ t2) (h2 : a1 ≤ a2) (h3 : t2 < 2 ^ (w + 9)) (h4 : a2 < 2 ^ (w + 10)) : tInv w k0 0 k0 t1 t2 a1 a2 := by
  have : 2 ^ (w + 10) ≤ 2 ^ (w + 10000) := Nat.pow_le_pow_right (by omega) (by omega)
  refine ⟨by omega, h1, h2, h3, by omega⟩
theorem tStep_le {w Y2 k t2 : Nat} (hY : Y2 ≤ 2 ^ (w + 8)) (hk : 1 ≤ k) : (t2 * Y2 / 2 ^ w + 1) * 1 / k + 1 ≤ t2 * 256 + 2 ∧ (2048 ≤ k → (t2 * Y2 / 2 ^ w + 1) * 1 / k + 1 ≤ t2 / 8 + 2) ∧ (2048 ≤ k → t2 ≤ 4 → (t2 * Y2 / 2 ^ w + 1) * 1 / k + 1 = 1) := by
  have P : 0 < 2 ^ w := Nat.pow_pos (by omega)
  have h1 : t2 * Y2 / 2 ^ w ≤ t2 * 256 := by
    refine (Nat.div_le_iff_le_mul P).2 ?_
    have m := Nat.mul_le_mul_left t2 hY
    have e : t2 * 2 ^ (w + 8) = 2 ^ w * (t2 * 256) := by rw [Nat.pow_add, show (2 : Nat) ^ 8 = 256 from rfl, Nat.mul_left_comm]
    rw [Nat.mul_comm (t2 * 256)]
    omega
  rw [Nat.mul_one]
  generalize t2 * Y2 / 2 ^ w = q at *
  have a := Nat.div_le_self (q + 1) k
  refine ⟨by omega, fun g => ?_, fun g g2 => ?_⟩
  · have b : (q + 1) / k ≤ (q + 1) / 2048 := Nat.div_le_div_left g (by omega)
    omega
  · rw [Nat.div_eq_of_lt (by omega)]
theorem tInv_step {w Y1 Y2 k0 i k t1 t2 a1 a2 : Nat} (hY : Y2 ≤ 2 ^ (w + 8)) (hY1 : Y1 ≤ Y2) (hk0 : 1 ≤ k0) (h : tInv w k0 i k t1 t2 a1 a2) :
    tInv w k0 (i + 1) (k + 2) (t1 * Y1 / 2 ^ w * 1 / k) ((t2 * Y2 / 2 ^ w + 1) * 1 / k + 1) (a1 + t1 * Y1 / 2 ^ w * 1 / k) (a2 + ((t2 * Y2 / 2 ^ w + 1) * 1 / k + 1)) := by
  obtain ⟨h1, h2, h3, h4, h5⟩ := h
  obtain ⟨u1, u2, u3⟩ := tStep_le (t2 := t2) hY (show 1 ≤ k by omega)
  have q0 : t1 * Y1 / 2 ^ w * 1 / k ≤ (t2 * Y2 / 2 ^ w + 1) * 1 / k + 1 := by
    refine Nat.le_succ_of_le (Nat.div_le_div_right (Nat.mul_le_mul_right 1 ?_))
    exact Nat.le_succ_of_le (Nat.div_le_div_right (Nat.mul_le_mul h2 hY1))
  have nt : (t2 * Y2 / 2 ^ w + 1) * 1 / k + 1 < 2 ^ (w + 9 + 9 * min (i + 1) 1024) := by
    by_cases hi : i < 1024
    · rw [show min (i + 1) 1024 = min i 1024 + 1 by omega, show w + 9 + 9 * (min i 1024 + 1) = (w + 9 + 9 * min i 1024) + 9 by omega, Nat.pow_add _ _ 9, show (2 : Nat) ^ 9 = 512 from rfl]
      have : 2 ^ 2 ≤ 2 ^ (w + 9 + 9 * min i 1024) := Nat.pow_le_pow_right (by omega) (by omega)
      omega
    · rw [show min (i + 1) 1024 = min i 1024 by omega]
      have g := u2 (by omega)
      have : 2 ^ 4 ≤ 2 ^ (w + 9 + 9 * min i 1024) := Nat.pow_le_pow_right (by omega) (by omega)
      omega
  have le : 2 ^ (w + 9 + 9 * min (i + 1) 1024) ≤ 2 ^ (w + 10000) := Nat.pow_le_pow_right (by omega) (by omega)
  generalize t1 * Y1 / 2 ^ w * 1 / k = x at *
  generalize (t2 * Y2 / 2 ^ w + 1) * 1 / k + 1 = y at *
  refine ⟨by omega, q0, by omega, nt, ?_⟩
  rw [show i + 1 + 2 = (i + 2) + 1 by omega, Nat.add_mul (i + 2) 1, Nat.one_mul]
  omega
theorem tRow_low {w Y1 Y2 M k0 : Nat} (hY : Y2 ≤ 2 ^ (w + 8)) (hY1 : Y1 ≤ Y2) (hk0 : 1 ≤ k0) (hM : M ≤ 2048) : ∀ (m f i k t1 t2 a1 a2 : Nat), tInv w k0 i k t1 t2 a1 a2 → 2048 ≤ k → t2 ≤ 2 ^ (3 * m) + 3 → m + 2 ≤ f → ∃ A B, tRow w Y1 Y2 M f k t1 t2 a1 a2 = some (A, B) ∧ A ≤ B ∧ B < (i + m + 4) * 2 ^ (w + 10000) := by
  intro m
  induction m with
  | zero =>
    intro f i k t1 t2 a1 a2 h hk ht hf
    obtain ⟨f, rfl⟩ : ∃ j, f = j + 2 := ⟨f - 2, by omega⟩
    have P : 2 ^ 4 ≤ 2 ^ (w + 10000) := Nat.pow_le_pow_right (by omega) (by omega)
    have hh := h
    obtain ⟨h1, h2, h3, h4, h5⟩ := hh
    rw [tRow]
    by_cases g : M ≤ k ∧ t2 < 4
    · rw [if_pos g]
      refine ⟨a1, a2 + 8, rfl, by omega, ?_⟩
      rw [show i + 0 + 4 = (i + 2) + 2 by omega, Nat.add_mul (i + 2) 2]
      omega
    · rw [if_neg g]
      have st := tInv_step hY hY1 hk0 h
      have t4 : t2 ≤ 4 := by have : 2 ^ (3 * 0) = 1 := rfl; omega
      rw [(tStep_le (t2 := t2) hY (show 1 ≤ k by omega)).2.2 hk t4] at st ⊢
      obtain ⟨k1, k2, k3, k4, k5⟩ := st
      rw [tRow, if_pos (by omega)]
      refine ⟨_, _, rfl, by omega, ?_⟩
      rw [show i + 0 + 4 = (i + 1 + 2) + 1 by omega, Nat.add_mul (i + 1 + 2) 1]
      omega
  | succ m ih =>
    intro f i k t1 t2 a1 a2 h hk ht hf
    obtain ⟨f, rfl⟩ : ∃ j, f = j + 1 := ⟨f - 1, by omega⟩
    have P : 2 ^ 4 ≤ 2 ^ (w + 10000) := Nat.pow_le_pow_right (by omega) (by omega)
    have hh := h
    obtain ⟨h1, h2, h3, h4, h5⟩ := hh
    rw [tRow]
    by_cases g : M ≤ k ∧ t2 < 4
    · rw [if_pos g]
      refine ⟨a1, a2 + 8, rfl, by omega, ?_⟩
      rw [show i + (m + 1) + 4 = (i + 2) + (m + 3) by omega, Nat.add_mul (i + 2)]
      have := Nat.le_mul_of_pos_left (2 ^ (w + 10000)) (show 0 < m + 3 by omega)
      omega
    · rw [if_neg g]
      have st := tInv_step hY hY1 hk0 h
      have up := (tStep_le (t2 := t2) hY (show 1 ≤ k by omega)).2.1 hk
      have dv : t2 / 8 ≤ 2 ^ (3 * m) := by
        have e : 2 ^ (3 * (m + 1)) = 2 ^ (3 * m) * 8 := by rw [show 3 * (m + 1) = 3 * m + 3 by omega, Nat.pow_add]
        rw [e] at ht
        omega
      obtain ⟨A, B, r1, r2, r3⟩ := ih f (i + 1) (k + 2) _ _ _ _ st (by omega) (by omega) (by omega)
      exact ⟨A, B, r1, r2, by rw [show i + (m + 1) + 4 = i + 1 + m + 4 by omega]; exact r3⟩
/-- The row ends. -/
theorem tRow_end {w Y1 Y2 M k0 : Nat} (hY : Y2 ≤ 2 ^ (w + 8)) (hY1 : Y1 ≤ Y2) (hk0 : 1 ≤ k0) (hM : M ≤ 2048) (hw : w ≤ 3000) : ∀ (d f i k t1 t2 a1 a2 : Nat), tInv w k0 i k t1 t2 a1 a2 → 2048 ≤ k + 2 * d → i + d ≤ 1024 → d + 4100 ≤ f → ∃ A B, tRow w Y1 Y2 M f k t1 t2 a1 a2 = some (A, B) ∧ A ≤ B ∧ B < 2 ^ (w + 10014) := by
  have fin : ∀ z B : Nat, z ≤ 16000 → B < z * 2 ^ (w + 10000) → B < 2 ^ (w + 10014) := by
    intro z B hz hB
    have e : 2 ^ (w + 10014) = 16384 * 2 ^ (w + 10000) := by rw [show w + 10014 = 14 + (w + 10000) by omega, Nat.pow_add 2 14]
    have m := Nat.mul_le_mul_right (2 ^ (w + 10000)) (show z ≤ 16384 by omega)
    omega
  intro d
  induction d with
  | zero =>
    intro f i k t1 t2 a1 a2 h hk hi hf
    have h4 := h.2.2.2.1
    obtain ⟨m, hm⟩ : ∃ m : Nat, m = 4098 := ⟨_, rfl⟩
    obtain ⟨A, B, r1, r2, r3⟩ := tRow_low hY hY1 hk0 hM m f i k t1 t2 a1 a2 h (by omega) (by
      have : 2 ^ (w + 9 + 9 * min i 1024) ≤ 2 ^ (3 * m) := Nat.pow_le_pow_right (by omega) (by omega)
      omega) (by omega)
    exact ⟨A, B, r1, r2, fin _ _ (by omega) r3⟩
  | succ d ih =>
    intro f i k t1 t2 a1 a2 h hk hi hf
    obtain ⟨f, rfl⟩ : ∃ j, f = j + 1 := ⟨f - 1, by omega⟩
    have hh := h
    obtain ⟨h1, h2, h3, h4, h5⟩ := hh
    rw [tRow]
    by_cases g : M ≤ k ∧ t2 < 4
    · rw [if_pos g]
      refine ⟨a1, a2 + 8, rfl, by omega, fin (i + 3) _ (by omega) ?_⟩
      have P : 2 ^ 4 ≤ 2 ^ (w + 10000) := Nat.pow_le_pow_right (by omega) (by omega)
      rw [show i + 3 = (i + 2) + 1 by omega, Nat.add_mul (i + 2) 1]
      omega
    · rw [if_neg g]
      exact ih f (i + 1) (k + 2) _ _ _ _ (tInv_step hY hY1 hk0 h) (by omega) (by omega) (by omega)
end Go.Proofs.YtemnjalaincijaaGreat

/- rat.Floor; ball: held, Down, Up, Trim, around, Mul, in the evaluator. -/
namespace Go.Proofs.YtemnjalaincijaaGreat
set_option linter.unusedSimpArgs false
set_option linter.unusedVariables false
set_option maxRecDepth 8000
open Go.Ev
def mnR (m x : Rat) : Rat := if x < m then x else m
def mxR (m x : Rat) : Rat := if m < x then x else m
/-- The least and the greatest of a number and so many of a row. -/
def loL (f : Rat) (l : List Rat) : Rat := l.foldl mnR f
def hiL (f : Rat) (l : List Rat) : Rat := l.foldl mxR f
theorem loL_snoc (f : Rat) (l : List Rat) {i : Nat} (h : i < l.length) : loL f (l.take (i + 1)) = mnR (loL f (l.take i)) (l.getD i 0) := by
  unfold loL
  rw [List.take_add_one, List.foldl_append, List.getD_eq_getElem?_getD, List.getElem?_eq_getElem h]
  rfl
theorem hiL_snoc (f : Rat) (l : List Rat) {i : Nat} (h : i < l.length) : hiL f (l.take (i + 1)) = mxR (hiL f (l.take i)) (l.getD i 0) := by
  unfold hiL
  rw [List.take_add_one, List.foldl_append, List.getD_eq_getElem?_getD, List.getElem?_eq_getElem h]
  rfl
end Go.Proofs.YtemnjalaincijaaGreat

/- ball: around, Mul, in the evaluator. -/
namespace Go.Proofs.YtemnjalaincijaaGreat
set_option linter.unusedSimpArgs false
set_option linter.unusedVariables false
set_option maxRecDepth 8000
open Go.Ev
/-- A ball's cells. -/
abbrev ballC (a b : Rat) : List SV := [.bool (decide (a.num < 0)), natV (lim a.num.natAbs), natV (lim a.den), .bool (decide (b.num < 0)), natV (lim b.num.natAbs), natV (lim b.den)]
theorem loL_sz {f : Rat} {l : List Rat} {L : Nat} (hf : szR f L) (hl : ∀ x ∈ l, szR x L) : szR (loL f l) L := by
  induction l generalizing f with
  | nil => exact hf
  | cons x l ih =>
    refine ih (f := mnR f x) ?_ (fun y hy => hl y (List.mem_cons_of_mem _ hy))
    unfold mnR
    split
    · exact hl x List.mem_cons_self
    · exact hf
theorem hiL_sz {f : Rat} {l : List Rat} {L : Nat} (hf : szR f L) (hl : ∀ x ∈ l, szR x L) : szR (hiL f l) L := by
  induction l generalizing f with
  | nil => exact hf
  | cons x l ih =>
    refine ih (f := mxR f x) ?_ (fun y hy => hl y (List.mem_cons_of_mem _ hy))
    unfold mxR
    split
    · exact hl x List.mem_cons_self
    · exact hf
set_option maxHeartbeats 1000000 in
theorem ball_around {f : Rat} {l : List Rat} {L : Nat} (hf : szR f L) (hl : ∀ x ∈ l, szR x L) (hL1 : 1 ≤ L) (hL : L ≤ 10000) (hn : l.length ≤ 10) : Go.Ev.Fn CX 188 [rv f, .sl l.length (rvsC l)] (ballR (loL f l) (hiL f l)) := by
  have o := ball_Of (RatA_rv hf) (by omega)
  have hat := fun {i : Nat} (h : i < l.length) => rvsC_at (l := l) (i := i) h
  have hlen := rvsC_len l
  have zlo := fun i => loL_sz (f := f) (l := l.take i) hf (fun x hx => hl x (List.mem_of_mem_take hx))
  have zhi := fun i => hiL_sz (f := f) (l := l.take i) hf (fun x hx => hl x (List.mem_of_mem_take hx))
  have zx := fun {i : Nat} (h : i < l.length) => hl _ (getD_mem (l := l) h)
  have slo := fun {i : Nat} (h : i < l.length) => loL_snoc f l h
  have shi := fun {i : Nat} (h : i < l.length) => hiL_snoc f l h
  generalize hcs : rvsC l = cs at *
  clear hl hf
  refine Go.Ev.Fn.intro (fn := Tryz.f188) (body := (Tryz.f188).body.get!) (by kernel_rfl) (by kernel_rfl) (by kernel_rfl) (fun _ => rfl) (Nat.le_of_ble_eq_true (by kernel_rfl)) ?_; unfold Tryz.f188; simp only [Option.get!_some]
  repeat (first | (simp only [go_sem, Nat.reduceEqDiff, Nat.reduceAdd, Nat.reduceSub, Nat.reduceMul, Nat.reduceLeDiff, Nat.reduceLT, reduceIte, reduceCtorEq, Nat.succ_ne_zero, elemsC, Int.reduceToNat, Nat.reducePow]) | (simp (disch := (first | omega | (simp only [AL, List.length_map]; omega))) only [AR, AL, ifT, ifF, take_all, List.length_cons, List.length_nil, Int.reduceToNat, Int.reducePow, Nat.reducePow]) | (refine wk_intro (by kernel_rfl) ?_) | (refine vf_of (by first | exact o) ?_))
  refine vp_loop_inv (fun s => s.tmp 4 = .ptr 4 0 0 ∧ s.obj 4 0 = some [.bool false, .sl 0 [], .sl 0 [], .bool false, .sl 0 [], .sl 0 []] ∧ s.tmp 5 = .ptr 5 0 0 ∧ s.tmp 10 = .sv (.sl l.length cs) ∧ s.tmp 11 = .sv (.int .i64 (l.length : Int)) ∧
      ∃ i : Nat, s.tmp 12 = .sv (.int .i64 (i : Int)) ∧ i ≤ l.length ∧ s.obj 5 0 = some (ballC (loL f (l.take i)) (hiL f (l.take i))))
    (fun s => match s.tmp 12 with | .sv (.int _ i) => l.length - i.toNat | _ => 0) ⟨rfl, rfl, rfl, rfl, rfl, 0, rfl, by omega, rfl⟩ ?_
  rintro s ⟨i4, o4, i5, i10, i11, i, i12, hi, o5⟩
  by_cases hend : i = l.length
  · subst hend
    rw [List.take_length] at o5
    clear hat zlo zhi zx slo shi
    generalize loL f l = lo at *
    generalize hiL f l = hh at *
    repeat (first | (simp only [go_sem, Nat.reduceEqDiff, Nat.reduceAdd, Nat.reduceSub, Nat.reduceMul, Nat.reduceLeDiff, Nat.reduceLT, reduceIte, reduceCtorEq, Nat.succ_ne_zero, elemsC, Int.reduceToNat, Nat.reducePow, i4, o4, i5, i10, i11, i12, o5, ballC]) | (simp (disch := (first | omega | (simp only [AL, List.length_map]; omega))) only [AR, AL, ifT, ifF, take_all, List.length_cons, List.length_nil, Int.reduceToNat, Int.reducePow, Nat.reducePow, i4, o4, i5, i10, i11, i12, o5, ballC]) | (refine wk_intro (by kernel_rfl) ?_))
  · obtain ⟨rest, g1⟩ := hat (i := i) (by omega)
    have a1 := zlo i
    have a2 := zhi i
    have a3 := zx (i := i) (by omega)
    have b1 := slo (i := i) (by omega)
    have b2 := shi (i := i) (by omega)
    generalize hlo' : loL f (l.take (i + 1)) = lo' at *
    generalize hhi' : hiL f (l.take (i + 1)) = hi' at *
    generalize loL f (l.take i) = lo at *
    generalize hiL f (l.take i) = hh at *
    generalize l.getD i 0 = x at *
    have c1 := rat_Cmp (RatA_rv a3) (RatA_rv a1) hL1 hL1 (by omega)
    have c2 := rat_Cmp (RatA_rv a3) (RatA_rv a2) hL1 hL1 (by omega)
    have nx := rat_Norm (RatA_rv a3) (by omega)
    have e1 := cmpR_lt (q := x) (r := lo)
    have e2 := cmpR_gt (q := x) (r := hh)
    clear hat zlo zhi zx slo shi a1 a2 a3
    generalize cmpR x lo = z1 at *
    generalize cmpR x hh = z2 at *
    unfold ballC at o5
    by_cases k1 : x < lo
    · rw [decide_eq_true k1] at e1
      rw [mnR, if_pos k1] at b1
      by_cases k2 : hh < x
      · rw [decide_eq_true k2] at e2
        rw [mxR, if_pos k2] at b2
        clear k1 k2
        repeat (first | (simp only [go_sem, Nat.reduceEqDiff, Nat.reduceAdd, Nat.reduceSub, Nat.reduceMul, Nat.reduceLeDiff, Nat.reduceLT, reduceIte, reduceCtorEq, Nat.succ_ne_zero, elemsC, Int.reduceToNat, Nat.reducePow, i4, o4, i5, i10, i11, i12, o5, g1, hlen, e1, e2]) | (simp (disch := (first | omega | (simp only [AL, List.length_map]; omega))) only [AR, AL, ifT, ifF, take_all, List.length_cons, List.length_nil, Int.reduceToNat, Int.reducePow, Nat.reducePow, i4, o4, i5, i10, i11, i12, o5, g1, hlen, e1, e2]) | (refine wk_intro (by kernel_rfl) ?_) | (refine vf_of (by first | exact c1 | exact nx | exact c2) ?_))
        exact ⟨⟨i + 1, rfl, by omega, by rw [hlo', hhi', b1, b2]⟩, by omega⟩
      · rw [decide_eq_false k2] at e2
        rw [mxR, if_neg k2] at b2
        clear k1 k2
        repeat (first | (simp only [go_sem, Nat.reduceEqDiff, Nat.reduceAdd, Nat.reduceSub, Nat.reduceMul, Nat.reduceLeDiff, Nat.reduceLT, reduceIte, reduceCtorEq, Nat.succ_ne_zero, elemsC, Int.reduceToNat, Nat.reducePow, i4, o4, i5, i10, i11, i12, o5, g1, hlen, e1, e2]) | (simp (disch := (first | omega | (simp only [AL, List.length_map]; omega))) only [AR, AL, ifT, ifF, take_all, List.length_cons, List.length_nil, Int.reduceToNat, Int.reducePow, Nat.reducePow, i4, o4, i5, i10, i11, i12, o5, g1, hlen, e1, e2]) | (refine wk_intro (by kernel_rfl) ?_) | (refine vf_of (by first | exact c1 | exact nx | exact c2) ?_))
        exact ⟨⟨i + 1, rfl, by omega, by rw [hlo', hhi', b1, b2]⟩, by omega⟩
    · rw [decide_eq_false k1] at e1
      rw [mnR, if_neg k1] at b1
      by_cases k2 : hh < x
      · rw [decide_eq_true k2] at e2
        rw [mxR, if_pos k2] at b2
        clear k1 k2
        repeat (first | (simp only [go_sem, Nat.reduceEqDiff, Nat.reduceAdd, Nat.reduceSub, Nat.reduceMul, Nat.reduceLeDiff, Nat.reduceLT, reduceIte, reduceCtorEq, Nat.succ_ne_zero, elemsC, Int.reduceToNat, Nat.reducePow, i4, o4, i5, i10, i11, i12, o5, g1, hlen, e1, e2]) | (simp (disch := (first | omega | (simp only [AL, List.length_map]; omega))) only [AR, AL, ifT, ifF, take_all, List.length_cons, List.length_nil, Int.reduceToNat, Int.reducePow, Nat.reducePow, i4, o4, i5, i10, i11, i12, o5, g1, hlen, e1, e2]) | (refine wk_intro (by kernel_rfl) ?_) | (refine vf_of (by first | exact c1 | exact c2 | exact nx) ?_))
        exact ⟨⟨i + 1, rfl, by omega, by rw [hlo', hhi', b1, b2]⟩, by omega⟩
      · rw [decide_eq_false k2] at e2
        rw [mxR, if_neg k2] at b2
        clear k1 k2
        repeat (first | (simp only [go_sem, Nat.reduceEqDiff, Nat.reduceAdd, Nat.reduceSub, Nat.reduceMul, Nat.reduceLeDiff, Nat.reduceLT, reduceIte, reduceCtorEq, Nat.succ_ne_zero, elemsC, Int.reduceToNat, Nat.reducePow, i4, o4, i5, i10, i11, i12, o5, g1, hlen, e1, e2]) | (simp (disch := (first | omega | (simp only [AL, List.length_map]; omega))) only [AR, AL, ifT, ifF, take_all, List.length_cons, List.length_nil, Int.reduceToNat, Int.reducePow, Nat.reducePow, i4, o4, i5, i10, i11, i12, o5, g1, hlen, e1, e2]) | (refine wk_intro (by kernel_rfl) ?_) | (refine vf_of (by first | exact c1 | exact c2) ?_))
        exact ⟨⟨i + 1, rfl, by omega, by rw [hlo', hhi', b1, b2]⟩, by omega⟩
theorem ball_Mul {a b c d : Rat} {L : Nat} (ha : szR a L) (hb : szR b L) (hc : szR c L) (hd : szR d L) (hL1 : 1 ≤ L) (hL : L ≤ 1000) :
    Go.Ev.Fn CX 148 [ballR a b, ballR c d] (ballR (loL (a * c) [a * d, b * c, b * d]) (hiL (a * c) [a * d, b * c, b * d])) := by
  have m1 := rat_Mul (RatA_rv ha) (RatA_rv hc) hL1 hL1 (by omega)
  have m2 := rat_Mul (RatA_rv ha) (RatA_rv hd) hL1 hL1 (by omega)
  have m3 := rat_Mul (RatA_rv hb) (RatA_rv hc) hL1 hL1 (by omega)
  have m4 := rat_Mul (RatA_rv hb) (RatA_rv hd) hL1 hL1 (by omega)
  have z1 := szR_mul ha hc hL1
  have z2 := szR_mul ha hd hL1
  have z3 := szR_mul hb hc hL1
  have z4 := szR_mul hb hd hL1
  generalize a * c = p1 at *
  generalize a * d = p2 at *
  generalize b * c = p3 at *
  generalize b * d = p4 at *
  have ar := ball_around (f := p1) (l := [p2, p3, p4]) (L := L + L) z1 (by
    intro x hx
    simp only [List.mem_cons, List.not_mem_nil, or_false] at hx
    rcases hx with rfl | rfl | rfl <;> assumption) (by omega) (by omega) (by simp)
  have ar' : Go.Ev.Fn CX 188 [rv p1, .sl 3 [.bool (decide (p2.num < 0)), natV (lim p2.num.natAbs), natV (lim p2.den), .bool (decide (p3.num < 0)), natV (lim p3.num.natAbs), natV (lim p3.den), .bool (decide (p4.num < 0)), natV (lim p4.num.natAbs), natV (lim p4.den)]] (ballR (loL p1 [p2, p3, p4]) (hiL p1 [p2, p3, p4])) := ar
  clear ar
  generalize loL p1 [p2, p3, p4] = lo at *
  generalize hiL p1 [p2, p3, p4] = hi at *
  refine Go.Ev.Fn.intro (fn := Tryz.f148) (body := (Tryz.f148).body.get!) (by kernel_rfl) (by kernel_rfl) (by kernel_rfl) (fun _ => rfl) (Nat.le_of_ble_eq_true (by kernel_rfl)) ?_; unfold Tryz.f148; simp only [Option.get!_some]
  repeat (first | (simp only [go_sem, Nat.reduceEqDiff, Nat.reduceAdd, Nat.reduceSub, Nat.reduceMul, Nat.reduceLeDiff, Nat.reduceLT, reduceIte, reduceCtorEq, Nat.succ_ne_zero, elemsC, Int.reduceToNat, Nat.reducePow]) | (simp (disch := (first | omega | (simp only [AL, List.length_map]; omega))) only [AR, AL, ifT, ifF, take_all, List.length_cons, List.length_nil, Int.reduceToNat, Int.reducePow, Nat.reducePow]) | (refine wk_intro (by kernel_rfl) ?_) | (refine vp_draw (id := 1) (l := [25]) (by kernel_rfl) ?_) | (refine vf_of (by first | exact m1 | exact m2 | exact m3 | exact m4 | exact ar') ?_))
end Go.Proofs.YtemnjalaincijaaGreat

/- A number times roots of pi, in balls: plain mathematics. -/
namespace Go.Proofs.YtemnjalaincijaaGreat
open Go.Ev
set_option linter.unusedVariables false
theorem p2_add (a b : Nat) : p2 (a + b) = p2 a * p2 b := by
  show ((2 ^ (a + b) : Nat) : Rat) = _
  rw [Nat.pow_add]
  exact_mod_cast rfl
theorem n_mul (a b : Nat) : ((a * b : Nat) : Rat) = (a : Rat) * (b : Rat) := by exact_mod_cast rfl
theorem n_le {a b : Nat} (h : a ≤ b) : (a : Rat) ≤ (b : Rat) := by exact_mod_cast h
/-- The constant near the root of pi. -/
def SQ : Rat := mkRat (rootPi : Int) (2 ^ 400)
theorem SQ_mul : SQ * p2 400 = (rootPi : Rat) := by
  unfold SQ
  rw [Rat.mkRat_eq_div]
  exact Rat.div_mul_cancel (by have : (0 : Rat) < p2 400 := p2_pos 400; grind)
theorem sq_split {p : Nat} (hp : p ≤ 800) : SQ * SQ * p2 p * p2 (800 - p) = ((rootPi * rootPi : Nat) : Rat) := by
  have h1 : p2 p * p2 (800 - p) = p2 400 * p2 400 := by rw [← p2_add, ← p2_add]; congr 1; omega
  have h2 : SQ * SQ * p2 p * p2 (800 - p) = SQ * SQ * (p2 p * p2 (800 - p)) := by grind
  have h3 : SQ * SQ * (p2 400 * p2 400) = (SQ * p2 400) * (SQ * p2 400) := by grind
  rw [h2, h1, h3, SQ_mul, n_mul]
theorem sq_lo {a p : Nat} (hp : p ≤ 800) (h : a * 2 ^ (800 - p) ≤ rootPi * rootPi) : (a : Rat) ≤ SQ * SQ * p2 p := by
  refine le_by (p2_pos (800 - p)) ?_
  rw [sq_split hp]
  have := n_le h
  rw [n_mul] at this
  exact this
theorem sq_hi {a p : Nat} (hp : p ≤ 800) (h : rootPi * rootPi ≤ a * 2 ^ (800 - p)) : SQ * SQ * p2 p ≤ (a : Rat) := by
  refine le_by (p2_pos (800 - p)) ?_
  rw [sq_split hp]
  have := n_le h
  rw [n_mul a] at this
  exact this
theorem sq_ge {a p : Nat} (hp : p ≤ 400) (h : rootPi * rootPi ≤ (a + 1) * 2 ^ (800 - p)) : 2 ^ p ≤ a := by
  have h1 : 2 * 2 ^ 800 ≤ rootPi * rootPi := by decide +kernel
  have h2 : 2 ^ 800 = 2 ^ p * 2 ^ (800 - p) := by rw [← Nat.pow_add]; congr 1; omega
  have h3 : 0 < 2 ^ (800 - p) := Nat.pow_pos (by omega)
  have h4 : 2 * 2 ^ p * 2 ^ (800 - p) ≤ (a + 1) * 2 ^ (800 - p) := by rw [Nat.mul_assoc, ← h2]; exact Nat.le_trans h1 h
  have h5 := Nat.le_of_mul_le_mul_right h4 h3
  have h6 : 0 < 2 ^ p := Nat.pow_pos (by omega)
  omega
theorem sq_mono {x y : Rat} (hx : 0 ≤ x) (hy : 0 ≤ y) (h : x * x ≤ y * y) : x ≤ y := by
  rcases Rat.le_total (a := x) (b := y) with g | g
  · exact g
  · by_cases e : y = x
    · rw [e]; exact Rat.le_refl
    · have h1 : y < x := by grind
      have h2 : y * y ≤ x * y := Rat.mul_le_mul_of_nonneg_right g hy
      have h3 : x * y < x * x := by
        have : 0 < x * (x - y) := Rat.mul_pos (by grind) (by grind)
        grind
      grind
end Go.Proofs.YtemnjalaincijaaGreat
