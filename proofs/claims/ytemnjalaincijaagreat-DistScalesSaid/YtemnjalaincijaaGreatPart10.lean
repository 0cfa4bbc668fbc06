/- Part 10 of the proof: the evaluator, contracts of functions and their plain laws (joined by program). No condition. -/
import Derived.Test.YtemnjalaincijaaGreatPart9
/- bell: isFar, held, share, fall, row, area, in the evaluator. -/
namespace Go.Proofs.YtemnjalaincijaaGreat
set_option linter.unusedSimpArgs false
set_option linter.unusedVariables false
set_option maxRecDepth 8000
open Go.Ev
set_option linter.unusedVariables false
section
variable {v : SV} {z : Rat} {L P w : Nat} {pI : Int}
theorem bell_far (hv : RatA v z L) (hL1 : 1 ≤ L) (hL : L ≤ 100) (h : z < -8 ∨ 8 < z) : Go.Ev.Fn CX 91 [v] (.bool true) := by
  have zx := szR_of hv hL1
  have im := rat_Int (-8) (by omega)
  have ip := rat_Int 8 (by omega)
  have c1 := rat_Cmp hv (RatA_rv (int_szR (n := -8) (by omega))) hL1 (by omega) (by omega)
  have c2 := rat_Cmp hv (RatA_rv (int_szR (n := 8) (by omega))) hL1 (by omega) (by omega)
  by_cases g : z < -8
  · have e1 : decide (cmpR z ((-8 : Int) : Rat) < 0) = true := by rw [cmpR_lt]; exact decide_eq_true g
    clear h
    obtain ⟨s, n, d, rfl, -⟩ := hv
    generalize cmpR z ((-8 : Int) : Rat) = y1 at *
    refine Go.Ev.Fn.intro (fn := Tryz.f91) (body := (Tryz.f91).body.get!) (by kernel_rfl) (by kernel_rfl) (by kernel_rfl) (fun _ => rfl) (Nat.le_of_ble_eq_true (by kernel_rfl)) ?_; unfold Tryz.f91; simp only [Option.get!_some]
    repeat (first | (simp only [go_sem, Nat.reduceEqDiff, Nat.reduceAdd, Nat.reduceSub, Nat.reduceMul, Nat.reduceLeDiff, Nat.reduceLT, reduceIte, reduceCtorEq, Nat.succ_ne_zero, elemsC, Int.reduceToNat, Nat.reducePow, e1]) | (simp (disch := (first | omega | (simp only [AL, List.length_map]; omega))) only [AR, AL, ifT, ifF, take_all, List.length_cons, List.length_nil, Int.reduceToNat, Int.reducePow, Nat.reducePow, e1]) | (refine wk_intro (by kernel_rfl) ?_) | (refine vp_draw (id := 1) (l := []) (by kernel_rfl) ?_) | (refine vf_of (by first | exact im | exact c1) ?_))
  · have e1 : decide (cmpR z ((-8 : Int) : Rat) < 0) = false := by rw [cmpR_lt]; exact decide_eq_false g
    have e2 : decide (cmpR z ((8 : Int) : Rat) > 0) = true := by rw [cmpR_gt]; exact decide_eq_true (h.resolve_left g)
    clear h
    obtain ⟨s, n, d, rfl, -⟩ := hv
    generalize cmpR z ((-8 : Int) : Rat) = y1 at *
    generalize cmpR z ((8 : Int) : Rat) = y2 at *
    refine Go.Ev.Fn.intro (fn := Tryz.f91) (body := (Tryz.f91).body.get!) (by kernel_rfl) (by kernel_rfl) (by kernel_rfl) (fun _ => rfl) (Nat.le_of_ble_eq_true (by kernel_rfl)) ?_; unfold Tryz.f91; simp only [Option.get!_some]
    repeat (first | (simp only [go_sem, Nat.reduceEqDiff, Nat.reduceAdd, Nat.reduceSub, Nat.reduceMul, Nat.reduceLeDiff, Nat.reduceLT, reduceIte, reduceCtorEq, Nat.succ_ne_zero, elemsC, Int.reduceToNat, Nat.reducePow, e1, e2]) | (simp (disch := (first | omega | (simp only [AL, List.length_map]; omega))) only [AR, AL, ifT, ifF, take_all, List.length_cons, List.length_nil, Int.reduceToNat, Int.reducePow, Nat.reducePow, e1, e2]) | (refine wk_intro (by kernel_rfl) ?_) | (refine vp_draw (id := 1) (l := []) (by kernel_rfl) ?_) | (refine vf_of (by first | exact im | exact c1 | exact ip | exact c2) ?_))
theorem bell_nigh (hv : RatA v z L) (hL1 : 1 ≤ L) (hL : L ≤ 100) (h1 : -8 ≤ z) (h2 : z ≤ 8) : Go.Ev.Fn CX 91 [v] (.bool false) := by
  have zx := szR_of hv hL1
  have im := rat_Int (-8) (by omega)
  have ip := rat_Int 8 (by omega)
  have c1 := rat_Cmp hv (RatA_rv (int_szR (n := -8) (by omega))) hL1 (by omega) (by omega)
  have c2 := rat_Cmp hv (RatA_rv (int_szR (n := 8) (by omega))) hL1 (by omega) (by omega)
  have e1 : decide (cmpR z ((-8 : Int) : Rat) < 0) = false := by rw [cmpR_lt]; exact decide_eq_false (Rat.not_lt.2 h1)
  have e2 : decide (cmpR z ((8 : Int) : Rat) > 0) = false := by rw [cmpR_gt]; exact decide_eq_false (Rat.not_lt.2 h2)
  obtain ⟨s, n, d, rfl, -⟩ := hv
  generalize cmpR z ((-8 : Int) : Rat) = y1 at *
  generalize cmpR z ((8 : Int) : Rat) = y2 at *
  refine Go.Ev.Fn.intro (fn := Tryz.f91) (body := (Tryz.f91).body.get!) (by kernel_rfl) (by kernel_rfl) (by kernel_rfl) (fun _ => rfl) (Nat.le_of_ble_eq_true (by kernel_rfl)) ?_; unfold Tryz.f91; simp only [Option.get!_some]
  repeat (first | (simp only [go_sem, Nat.reduceEqDiff, Nat.reduceAdd, Nat.reduceSub, Nat.reduceMul, Nat.reduceLeDiff, Nat.reduceLT, reduceIte, reduceCtorEq, Nat.succ_ne_zero, elemsC, Int.reduceToNat, Nat.reducePow, e1, e2]) | (simp (disch := (first | omega | (simp only [AL, List.length_map]; omega))) only [AR, AL, ifT, ifF, take_all, List.length_cons, List.length_nil, Int.reduceToNat, Int.reducePow, Nat.reducePow, e1, e2]) | (refine wk_intro (by kernel_rfl) ?_) | (refine vp_draw (id := 1) (l := []) (by kernel_rfl) ?_) | (refine vf_of (by first | exact im | exact c1 | exact ip | exact c2) ?_))
theorem bell_held (hpI : (pI ≤ 0 ∧ P = 0) ∨ pI = (P : Int)) (hP : P ≤ 200) : Go.Ev.Fn CX 93 [.int .i64 pI] (.int .i64 (P : Int)) := by
  have e1 : (if (0 : Int) > pI then (0 : Int) else pI) = (P : Int) := by split <;> omega
  have e2 : (if (200 : Int) < (P : Int) then (200 : Int) else (P : Int)) = (P : Int) := if_neg (by omega)
  refine Go.Ev.Fn.intro (fn := Tryz.f93) (body := (Tryz.f93).body.get!) (by kernel_rfl) (by kernel_rfl) (by kernel_rfl) (fun _ => rfl) (Nat.le_of_ble_eq_true (by kernel_rfl)) ?_; unfold Tryz.f93; simp only [Option.get!_some]
  repeat (first | (simp only [go_sem, Nat.reduceEqDiff, Nat.reduceAdd, Nat.reduceSub, Nat.reduceMul, Nat.reduceLeDiff, Nat.reduceLT, reduceIte, reduceCtorEq, Nat.succ_ne_zero, elemsC, Int.reduceToNat, Nat.reducePow, e1, e2]) | (simp (disch := (first | omega | (simp only [AL, List.length_map]; omega))) only [AR, AL, ifT, ifF, take_all, List.length_cons, List.length_nil, Int.reduceToNat, Int.reducePow, Nat.reducePow, e1, e2]) | (refine wk_intro (by kernel_rfl) ?_))
theorem unN_mk (m w : Nat) : unN (mkRat (m : Int) (2 ^ w)) w = m := by
  have P : 0 < 2 ^ w := Nat.pow_pos (by omega)
  obtain ⟨q, hq⟩ : ∃ q, q = mkRat (m : Int) (2 ^ w) := ⟨_, rfl⟩
  have e := mk_p2 m w
  rw [← hq] at e ⊢
  have q0 : 0 ≤ q := by
    refine le_by (p2_pos w) ?_
    rw [e, Rat.zero_mul]; exact nat_nonneg m
  have nn : 0 ≤ q.num := Rat.num_nonneg.2 q0
  have d := Ex.denR q
  have k : ((q.num.natAbs * 2 ^ w : Nat) : Rat) = ((m * q.den : Nat) : Rat) := by
    rw [Ex.castmul, Ex.castmul, ← e]
    have : ((q.num.natAbs : Nat) : Rat) = (q.num : Rat) := by
      have h : ((q.num.natAbs : Nat) : Rat) = ((q.num.natAbs : Int) : Rat) := rfl
      rw [h, Int.natAbs_of_nonneg nn]
    rw [this, ← d]; grind
  have k2 := Ex.nat_inj k
  show q.num.natAbs * 2 ^ w / q.den = m
  rw [k2]
  exact Nat.mul_div_cancel _ q.den_pos
theorem exps_Exp0 {pI : Int} (hv : RatA v 0 L) (hL : L ≤ 100) : Go.Ev.Fn CX 58 [v, .int .i64 pI] (.tup [ballR 1 1, .bool true]) := by
  have n1 := rat_Norm hv (by omega)
  have im := rat_Int (-64) (by omega)
  have ip := rat_Int 64 (by omega)
  have i1 := rat_Int 1 (by omega)
  have z0 : szR 0 1 := szR_zero (by omega)
  have c1 := rat_Cmp (RatA_rv z0) (RatA_rv (int_szR (n := -64) (by omega))) (by omega) (by omega) (by omega)
  have c2 := rat_Cmp (RatA_rv z0) (RatA_rv (int_szR (n := 64) (by omega))) (by omega) (by omega) (by omega)
  have zr := rat_Zero (RatA_rv z0) (by omega) (by omega)
  rw [decide_eq_true rfl] at zr
  have o := ball_Of (RatA_rv (int_szR (n := 1) (by omega))) (by omega)
  rw [show ((1 : Int) : Rat) = 1 from rfl] at i1 o
  have e1 : decide (cmpR 0 ((-64 : Int) : Rat) < 0) = false := by rw [cmpR_lt]; decide +kernel
  have e2 : decide (cmpR 0 ((64 : Int) : Rat) > 0) = false := by rw [cmpR_gt]; decide +kernel
  obtain ⟨s, n, d, rfl, -⟩ := hv
  generalize cmpR 0 ((-64 : Int) : Rat) = y1 at *
  generalize cmpR 0 ((64 : Int) : Rat) = y2 at *
  refine Go.Ev.Fn.intro (fn := Tryz.f58) (body := (Tryz.f58).body.get!) (by kernel_rfl) (by kernel_rfl) (by kernel_rfl) (fun _ => rfl) (Nat.le_of_ble_eq_true (by kernel_rfl)) ?_; unfold Tryz.f58; simp only [Option.get!_some]
  repeat (first | (simp only [go_sem, Nat.reduceEqDiff, Nat.reduceAdd, Nat.reduceSub, Nat.reduceMul, Nat.reduceLeDiff, Nat.reduceLT, reduceIte, reduceCtorEq, Nat.succ_ne_zero, elemsC, Int.reduceToNat, Nat.reducePow, e1, e2]) | (simp (disch := (first | omega | (simp only [AL, List.length_map]; omega))) only [AR, AL, ifT, ifF, take_all, List.length_cons, List.length_nil, Int.reduceToNat, Int.reducePow, Nat.reducePow, e1, e2]) | (refine wk_intro (by kernel_rfl) ?_) | (refine vp_draw (id := 2) (l := []) (by kernel_rfl) ?_) | (refine vf_of (by first | exact n1 | exact im | exact c1 | exact ip | exact c2 | exact zr | exact i1 | exact o) ?_))
/-- e to the power of what is not above 0. -/
theorem bell_fall (hv : RatA v z L) (hL1 : 1 ≤ L) (hL : L ≤ 100) (h1 : -64 ≤ z) (h2 : z ≤ 0) (hd : z.den ≤ 2 ^ 240) (hw : w ≤ 512) :
    ∃ A B : Nat, A ≤ B ∧ B ≤ A + 2 ∧ B ≤ 2 ^ w + 2 ∧ Go.Ev.Fn CX 107 [v, .int .i64 (w : Int)] (spanV A B) ∧ ∃ s0, ∀ L, s0 ≤ L → Enc w A B (evX z L) := by
  have P := p2_pos w
  by_cases h0 : z = 0
  · subst h0
    have ex := exps_Exp0 (pI := (w : Int)) hv hL
    have fb := fix_Ball (w := w) (lo := 1) (hi := 1) (L := 1) ⟨lim_len_lt (by decide +kernel), lim_len_lt (by decide +kernel)⟩ ⟨lim_len_lt (by decide +kernel), lim_len_lt (by decide +kernel)⟩ (by omega) (by omega)
    have u : unN 1 w = 2 ^ w := by show (1 : Rat).num.natAbs * 2 ^ w / (1 : Rat).den = _; rw [show (1 : Rat).num.natAbs = 1 from rfl, show (1 : Rat).den = 1 from rfl, Nat.one_mul, Nat.div_one]
    rw [u] at fb
    refine ⟨2 ^ w, 2 ^ w + 1, by omega, by omega, by omega, ?_, 1, fun L hL => ?_⟩
    · obtain ⟨s, n, d, rfl, -⟩ := hv
      generalize 2 ^ w = y at *
      refine Go.Ev.Fn.intro (fn := Tryz.f107) (body := (Tryz.f107).body.get!) (by kernel_rfl) (by kernel_rfl) (by kernel_rfl) (fun _ => rfl) (Nat.le_of_ble_eq_true (by kernel_rfl)) ?_; unfold Tryz.f107; simp only [Option.get!_some]
      repeat (first | (simp only [go_sem, Nat.reduceEqDiff, Nat.reduceAdd, Nat.reduceSub, Nat.reduceMul, Nat.reduceLeDiff, Nat.reduceLT, reduceIte, reduceCtorEq, Nat.succ_ne_zero, elemsC, Int.reduceToNat, Nat.reducePow]) | (simp (disch := (first | omega | (simp only [AL, List.length_map]; omega))) only [AR, AL, ifT, ifF, take_all, List.length_cons, List.length_nil, Int.reduceToNat, Int.reducePow, Nat.reducePow]) | (refine wk_intro (by kernel_rfl) ?_) | (refine vf_of (by first | exact ex | exact fb) ?_))
    · have e : evX 0 L = 1 := by
        unfold evX
        rw [if_neg (by decide)]
        obtain ⟨k, rfl⟩ : ∃ k, L = k + 1 := ⟨L - 1, by omega⟩
        exact Ex.E_zero k
      rw [e]
      refine ⟨by rw [Rat.one_mul]; exact Rat.le_refl, ?_⟩
      rw [Rat.one_mul]
      exact_mod_cast Nat.le_succ (2 ^ w)
  · have hneg : z < 0 := by grind
    obtain ⟨m, lm, fn, s0, hs⟩ := exps_Exp (P := w) (pI := (w : Int)) hv hL1 hL h0 h1 (by grind) hd hw (.inr rfl)
    have hm : m ≤ 2 ^ w := by
      have e := (hs (s0 + 1) (by omega)).1
      have one := E_one (x := -z) (by grind) (L := s0 + 1) (by omega)
      have i : Ex.E (-z) (s0 + 1) * (1 / Ex.E (-z) (s0 + 1)) = 1 := Ex.mul_div _ 1 (by grind)
      have i0 : 0 ≤ 1 / Ex.E (-z) (s0 + 1) := Ex.div_nn (by decide) (by grind)
      have le1 : 1 / Ex.E (-z) (s0 + 1) ≤ 1 := by
        have := Rat.mul_le_mul_of_nonneg_right one i0
        rw [i, Rat.one_mul] at this; exact this
      unfold evX at e
      rw [if_pos hneg] at e
      have k := Rat.le_trans e (Rat.mul_le_mul_of_nonneg_right le1 (Rat.le_of_lt P))
      rw [Rat.one_mul] at k
      exact_mod_cast k
    have lp := lim_len_pw (n := 2 ^ w) (w := w + 1) (by rw [Nat.pow_succ]; have : 0 < 2 ^ w := Nat.pow_pos (by omega); omega)
    have lm2 := lim_len_pw (n := m + 1) (w := w + 2) (by rw [Nat.pow_add]; have : 0 < 2 ^ w := Nat.pow_pos (by omega); omega)
    have lm1 : (lim m).length ≤ (lim (m + 1)).length := lim_len_mono (Nat.le_succ m)
    have z1 : szR (mkRat (m : Int) (2 ^ w)) 20 := szR_nat (by omega) (by omega) (by omega)
    have z2 : szR (mkRat ((m + 1 : Nat) : Int) (2 ^ w)) 20 := szR_nat (by omega) (by omega) (by omega)
    have fb := fix_Ball (w := w) z1 z2 (by omega) (by omega)
    rw [unN_mk, unN_mk] at fb
    refine ⟨m, m + 2, by omega, by omega, by omega, ?_, s0, fun L hL => ?_⟩
    · clear hs z1 z2 hd h1 h2 h0 hneg
      obtain ⟨s, n, d, rfl, -⟩ := hv
      generalize mkRat (m : Int) (2 ^ w) = q1 at *
      generalize mkRat ((m + 1 : Nat) : Int) (2 ^ w) = q2 at *
      refine Go.Ev.Fn.intro (fn := Tryz.f107) (body := (Tryz.f107).body.get!) (by kernel_rfl) (by kernel_rfl) (by kernel_rfl) (fun _ => rfl) (Nat.le_of_ble_eq_true (by kernel_rfl)) ?_; unfold Tryz.f107; simp only [Option.get!_some]
      repeat (first | (simp only [go_sem, Nat.reduceEqDiff, Nat.reduceAdd, Nat.reduceSub, Nat.reduceMul, Nat.reduceLeDiff, Nat.reduceLT, reduceIte, reduceCtorEq, Nat.succ_ne_zero, elemsC, Int.reduceToNat, Nat.reducePow]) | (simp (disch := (first | omega | (simp only [AL, List.length_map]; omega))) only [AR, AL, ifT, ifF, take_all, List.length_cons, List.length_nil, Int.reduceToNat, Int.reducePow, Nat.reducePow]) | (refine wk_intro (by kernel_rfl) ?_) | (refine vf_of (by first | exact fn | exact fb) ?_))
    · exact enc_wider (n := 1) (hs L hL)
theorem unN_lt {q : Rat} (h0 : 0 ≤ q) (w : Nat) : q * p2 w < ((unN q w + 1 : Nat) : Rat) := by
  have d := Ex.denR q
  have dR : (0 : Rat) < (q.den : Rat) := by exact_mod_cast q.den_pos
  have nn : 0 ≤ q.num := Rat.num_nonneg.2 h0
  have k := Nat.lt_mul_div_succ (q.num.natAbs * 2 ^ w) q.den_pos
  have k2 := Ex.castlt k
  rw [Ex.castmul, Ex.castmul] at k2
  have e : ((q.num.natAbs : Nat) : Rat) = (q.num : Rat) := by
    have h : ((q.num.natAbs : Nat) : Rat) = ((q.num.natAbs : Int) : Rat) := rfl
    rw [h, Int.natAbs_of_nonneg nn]
  rw [e, ← d] at k2
  refine Rat.not_le.1 fun hc => ?_
  have m := Rat.mul_le_mul_of_nonneg_right hc (Rat.le_of_lt dR)
  have k3 : q * (q.den : Rat) * p2 w < (q.den : Rat) * ((unN q w + 1 : Nat) : Rat) := k2
  grind
theorem unN_ge {q : Rat} (h : 1 ≤ 2 * q) (hw : 1 ≤ w) : 2 ^ (w - 1) ≤ unN q w := by
  have d := Ex.denR q
  have dR : (0 : Rat) < (q.den : Rat) := by exact_mod_cast q.den_pos
  have nn : 0 ≤ q.num := Rat.num_nonneg.2 (by grind)
  have m := Rat.mul_le_mul_of_nonneg_right h (Rat.le_of_lt dR)
  rw [Rat.one_mul, Rat.mul_assoc, d] at m
  have k : (q.den : Int) ≤ 2 * q.num := by
    have : ((q.den : Int) : Rat) ≤ ((2 * q.num : Int) : Rat) := by rw [Rat.intCast_mul]; exact m
    exact Rat.intCast_le_intCast.1 this
  refine (Nat.le_div_iff_mul_le q.den_pos).2 ?_
  have e1 : 2 ^ w = 2 ^ (w - 1) * 2 := by rw [← Nat.pow_succ]; congr 1; omega
  have k2 : q.den ≤ 2 * q.num.natAbs := by omega
  have m2 := Nat.mul_le_mul_left (2 ^ (w - 1)) k2
  have e2 : q.num.natAbs * 2 ^ w = 2 ^ (w - 1) * (2 * q.num.natAbs) := by rw [e1, Nat.mul_comm, Nat.mul_assoc]
  rw [e2]; exact m2
theorem unN_mono {p q : Rat} (h0 : 0 ≤ p) (h : p ≤ q) (w : Nat) : unN p w ≤ unN q w := by
  have a := (unN_le h0 w).1
  have b := (unN_lt (show 0 ≤ q by grind) w)
  have m := Rat.mul_le_mul_of_nonneg_right h (Rat.le_of_lt (p2_pos w))
  have k : ((unN p w : Nat) : Rat) < ((unN q w + 1 : Nat) : Rat) := by grind
  have k2 : unN p w < unN q w + 1 := by exact_mod_cast k
  omega
theorem lohi1 {c lo hi : Rat} (hc : 0 ≤ c) (g : lo ≤ hi) : loL (c * lo) [c * hi, c * lo, c * hi] = c * lo ∧ hiL (c * lo) [c * hi, c * lo, c * hi] = c * hi := by
  have g2 := Rat.mul_le_mul_of_nonneg_left g hc
  generalize c * lo = u at *
  generalize c * hi = v at *
  constructor
  · simp only [loL, List.foldl_cons, List.foldl_nil, mnR]
    repeat (first | rw [if_neg (by grind)] | rfl)
  · simp only [hiL, List.foldl_cons, List.foldl_nil, mxR]
    by_cases e : u < v
    · rw [if_pos e, if_neg (show ¬ v < u by grind), if_neg (show ¬ v < v by grind)]
    · rw [if_neg e, if_neg (show ¬ u < u by grind), if_neg e]; grind
/-- 1 by the root of so many times pi. -/
theorem bell_share {many : Nat} (hm : 1 ≤ many) (hm2 : many ≤ 2) (hw0 : 8 ≤ w) (hw : w < 225) :
    ∃ A B : Nat, ∃ r1 r2 : Rat, Go.Ev.Fn CX 95 [.int .i64 (many : Int), .int .i64 (w : Int)] (spanV A B) ∧ A ≤ B ∧ B ≤ 2 ^ (w + 2) ∧ 0 < r1 ∧ r1 ≤ r2 ∧ r1 * r1 ≤ (many : Rat) * (SQ * SQ) ∧ (many : Rat) * (SQ * SQ) ≤ r2 * r2 ∧ ∀ r, r1 ≤ r → r ≤ r2 → Enc w A B (1 / r) := by
  obtain ⟨m1, m2, fp, h1, h2, h3, h4, z1, z2⟩ := many_pi hw0 hw
  have ri := rat_Int (many : Int) (by omega)
  have zi := int_szR (n := (many : Int)) (by omega)
  have o := ball_Of (RatA_rv zi) (by omega)
  have c1 : (1 : Rat) ≤ ((many : Int) : Rat) := by
    have : ((1 : Nat) : Rat) ≤ (many : Rat) := Ex.castle hm
    exact this
  have g12 : m1 ≤ m2 := Rat.le_trans h1 h2
  have bm := ball_Mul (L := 80) (szR_mono zi (by omega)) (szR_mono zi (by omega)) (szR_mono z1 (by omega)) (szR_mono z2 (by omega)) (by omega) (by omega)
  rw [(lohi1 (show (0 : Rat) ≤ ((many : Int) : Rat) by grind) g12).1, (lohi1 (show (0 : Rat) ≤ ((many : Int) : Rat) by grind) g12).2] at bm
  have k1 : (1 : Rat) ≤ ((many : Int) : Rat) * m1 := by
    have := Rat.mul_le_mul_of_nonneg_left h4 (show (0 : Rat) ≤ ((many : Int) : Rat) by grind)
    grind
  have k2 := Rat.mul_le_mul_of_nonneg_left g12 (show (0 : Rat) ≤ ((many : Int) : Rat) by grind)
  have k3 := Rat.mul_le_mul_of_nonneg_left h1 (show (0 : Rat) ≤ ((many : Int) : Rat) by grind)
  have k4 := Rat.mul_le_mul_of_nonneg_left h2 (show (0 : Rat) ≤ ((many : Int) : Rat) by grind)
  obtain ⟨lo, lo', hi', hi, fr, r1, r2, r3, r4, r5, r6, r7, r8, r9, r10, y1, y2⟩ := root_Of (L := 82) (p := w) (A := ((many : Int) : Rat) * m1) (B := ((many : Int) : Rat) * m2) (by grind) (by grind) (szR_mono (szR_mul zi z1 (by omega)) (by omega)) (szR_mono (szR_mul zi z2 (by omega)) (by omega)) (by omega) (by omega) (by omega)
  have fb := fix_Ball (w := w) (szR_mono y1 (show _ ≤ 200 by omega)) (szR_mono y2 (show _ ≤ 200 by omega)) (by omega) (by omega)
  have W := p2_pos w
  -- the lower end is at least a half
  have lo1 : 1 ≤ 2 * lo := by
    have l1 : 1 ≤ lo' := by
      refine Rat.not_lt.1 fun h => ?_
      have a := Rat.mul_le_mul_of_nonneg_right (Rat.le_of_lt h) (show 0 ≤ lo' by grind)
      have b : lo' * lo' < 1 := by grind
      grind
    have w2 : (2 : Rat) ≤ p2 w := Ex.castle (show 2 ≤ 2 ^ w from Nat.le_trans (by decide) (Nat.pow_le_pow_right (n := 2) (by omega) (show 1 ≤ w by omega)))
    refine Rat.not_lt.1 fun h => ?_
    have a := Rat.mul_le_mul_of_nonneg_left w2 (show 0 ≤ lo' - lo by grind)
    grind
  have lh : lo ≤ hi := by
    have a : lo * lo ≤ hi * hi := Rat.le_trans r3 (Rat.le_trans k2 r9)
    exact Ex.le_by (c := 1) (by decide) (by rw [Rat.mul_one, Rat.mul_one]; exact sq_mono r1 (by grind) a)
  have lu := unN_ge lo1 (show 1 ≤ w by omega)
  have P1 : 0 < 2 ^ (w - 1) := Nat.pow_pos (by omega)
  have e1 : 2 ^ w = 2 ^ (w - 1) * 2 := by rw [← Nat.pow_succ]; congr 1; omega
  have en := fun r (a : lo ≤ r) (b : r ≤ hi) => enc_inv (w := w) (show 0 < unN lo w by omega) (ball_enc r1 a b w)
  have uB : unN lo w < unN hi w + 1 := by
    have a := (ball_enc r1 Rat.le_refl lh w)
    have b := a.1
    have c := a.2
    have d := Rat.le_trans b c
    have d' : unN lo w ≤ unN hi w + 1 := by exact_mod_cast d
    by_cases e : unN lo w = unN hi w + 1
    · exact absurd (unN_mono r1 lh w) (by omega)
    · omega
  have hi8 : unN hi w + 1 ≤ 2 ^ (w + 8) := by
    have sq4 : SQ * SQ ≤ 4 := by decide +kernel
    have p1 : (1 : Rat) ≤ p2 w := Ex.castle (show 1 ≤ 2 ^ w by omega)
    have m2le : m2 ≤ 5 := by
      refine Rat.not_lt.1 fun h => ?_
      have := Rat.mul_le_mul_of_nonneg_left p1 (show 0 ≤ m2 - m1 by grind)
      grind
    have mm : ((many : Int) : Rat) ≤ 2 := by
      have : ((many : Nat) : Rat) ≤ ((2 : Nat) : Rat) := Ex.castle hm2
      exact this
    have q10 : ((many : Int) : Rat) * m2 ≤ 10 := by
      have a := Rat.mul_le_mul_of_nonneg_right mm (show 0 ≤ m2 by grind)
      grind
    have h4' : hi' ≤ 4 := by
      refine Rat.not_lt.1 fun h => ?_
      have := Rat.mul_le_mul_of_nonneg_right (Rat.le_of_lt h) (show 0 ≤ hi' by grind)
      grind
    have h5 : hi ≤ 5 := by
      refine Rat.not_lt.1 fun h => ?_
      have := Rat.mul_le_mul_of_nonneg_left p1 (show 0 ≤ hi - hi' by grind)
      grind
    have u := (unN_le (show 0 ≤ hi by grind) w).1
    have m5 := Rat.mul_le_mul_of_nonneg_right h5 (Rat.le_of_lt W)
    have t : ((unN hi w : Nat) : Rat) ≤ ((5 * 2 ^ w : Nat) : Rat) := by
      rw [Ex.castmul]; exact Rat.le_trans u m5
    have t2 : unN hi w ≤ 5 * 2 ^ w := by exact_mod_cast t
    have e8 : 2 ^ (w + 8) = 2 ^ w * 256 := Nat.pow_add _ _ _
    omega
  have lA := lim_len_pw (n := unN lo w) (w := w + 9) (by rw [Nat.pow_succ]; omega)
  have lB := lim_len_pw (n := unN hi w + 1) (w := w + 9) (by rw [Nat.pow_succ]; omega)
  have iv := fix_Inverse (a := unN lo w) (b := unN hi w + 1) (w := w) (by omega) (by omega) (by omega) (by omega) (by omega)
  refine ⟨2 ^ (2 * w) / (unN hi w + 1), 2 ^ (2 * w) / unN lo w + 1, lo, hi, ?_, ?_, ?_, by grind, lh, Rat.le_trans r3 k3, Rat.le_trans k4 r9, fun r a b => (en r a b).1⟩
  · clear en k1 k2 k3 k4 r1 r2 r3 r4 r5 r6 r7 r8 r9 r10 lo1 lh h1 h2 h3 h4 g12 c1
    generalize 2 ^ (2 * w) / (unN hi w + 1) = A at *
    generalize 2 ^ (2 * w) / unN lo w + 1 = B at *
    generalize ((many : Int) : Rat) * m1 = q1 at *
    generalize ((many : Int) : Rat) * m2 = q2 at *
    generalize unN hi w + 1 = u2 at *
    generalize unN lo w = u1 at *
    refine Go.Ev.Fn.intro (fn := Tryz.f95) (body := (Tryz.f95).body.get!) (by kernel_rfl) (by kernel_rfl) (by kernel_rfl) (fun _ => rfl) (Nat.le_of_ble_eq_true (by kernel_rfl)) ?_; unfold Tryz.f95; simp only [Option.get!_some]
    repeat (first | (simp only [go_sem, Nat.reduceEqDiff, Nat.reduceAdd, Nat.reduceSub, Nat.reduceMul, Nat.reduceLeDiff, Nat.reduceLT, reduceIte, reduceCtorEq, Nat.succ_ne_zero, elemsC, Int.reduceToNat, Nat.reducePow]) | (simp (disch := (first | omega | (simp only [AL, List.length_map]; omega))) only [AR, AL, ifT, ifF, take_all, List.length_cons, List.length_nil, Int.reduceToNat, Int.reducePow, Nat.reducePow]) | (refine wk_intro (by kernel_rfl) ?_) | (refine vf_of (by first | exact ri | exact o | exact fp | exact bm | exact fr | exact fb | exact iv) ?_))
  · exact Nat.le_succ_of_le (Nat.div_le_div_left (by omega) (by omega))
  · have : 2 ^ (2 * w) / unN lo w ≤ 2 ^ (w + 1) := by
      refine (Nat.div_le_iff_le_mul (by omega)).2 ?_
      have e2 : 2 ^ (2 * w) = 2 ^ (w + 1) * 2 ^ (w - 1) := by rw [← Nat.pow_add]; congr 1; omega
      have m := Nat.mul_le_mul_left (2 ^ (w + 1)) lu
      omega
    have e3 : 2 ^ (w + 2) = 2 ^ (w + 1) * 2 := Nat.pow_succ _ _
    have : 0 < 2 ^ (w + 1) := Nat.pow_pos (by omega)
    omega
theorem fix_RatS {s : Bool} {n d : Nat} (hd : 0 < d) (ln : (lim n).length ≤ 1000) (ld : (lim d).length ≤ 1000) (hw : w ≤ 10000) : Go.Ev.Fn CX 128 [ratV s (lim n) (lim d), .int .i64 (w : Int)] (spanV (n * 2 ^ w / d) (n * 2 ^ w / d + 1)) := by
  have of := fix_Of (n := n) (d := d) (w := w) (by omega) (by omega) (by omega) (by omega)
  generalize n * 2 ^ w / d = x at *
  refine Go.Ev.Fn.intro (fn := Tryz.f128) (body := (Tryz.f128).body.get!) (by kernel_rfl) (by kernel_rfl) (by kernel_rfl) (fun _ => rfl) (Nat.le_of_ble_eq_true (by kernel_rfl)) ?_; unfold Tryz.f128; simp only [Option.get!_some]
  repeat (first | (simp only [go_sem, Nat.reduceEqDiff, Nat.reduceAdd, Nat.reduceSub, Nat.reduceMul, Nat.reduceLeDiff, Nat.reduceLT, reduceIte, reduceCtorEq, Nat.succ_ne_zero, elemsC, Int.reduceToNat, Nat.reducePow]) | (simp (disch := (first | omega | (simp only [AL, List.length_map]; omega))) only [AR, AL, ifT, ifF, take_all, List.length_cons, List.length_nil, Int.reduceToNat, Int.reducePow, Nat.reducePow]) | (refine wk_intro (by kernel_rfl) ?_) | (refine vf_of (by first | exact of) ?_))
/-- The bell's row, of a number and of its opposite. -/
theorem bell_row {n d many : Nat} (hd : 0 < d) (hn : n ≤ 8 * d) (hm : 1 ≤ many) (hm2 : many ≤ 2) (ln : (lim n).length ≤ 100) (ld : (lim d).length ≤ 100) (hw0 : 8 ≤ w) (hw : w ≤ 1000) :
    ∃ A B : Nat, A ≤ B ∧ B < 2 ^ (w + 10014) ∧ ∀ s : Bool, Go.Ev.Fn CX 146 [ratV s (lim n) (lim d), .int .u64 (many : Int), .int .i64 (w : Int)] (spanV A B) := by
  have fr := fun s => fix_RatS (s := s) (n := n) (d := d) (w := w) hd (by omega) (by omega) (by omega)
  have P : 2 ^ 8 ≤ 2 ^ w := Nat.pow_le_pow_right (by omega) hw0
  have Tle : n * 2 ^ w / d ≤ 2 ^ w * 8 := by
    refine (Nat.div_le_iff_le_mul hd).2 ?_
    have m := Nat.mul_le_mul_right (2 ^ w) hn
    have e : 8 * d * 2 ^ w = 2 ^ w * 8 * d := by rw [Nat.mul_comm, ← Nat.mul_assoc]
    omega
  generalize n * 2 ^ w / d = T at *
  have e9 : 2 ^ (w + 9) = 2 ^ w * 512 := Nat.pow_add _ _ _
  have e8 : 2 ^ (w + 8) = 2 ^ w * 256 := Nat.pow_add _ _ _
  have e10 : 2 ^ (w + 10) = 2 ^ w * 1024 := Nat.pow_add _ _ _
  have lT := lim_len_pw (n := T) (w := w + 9) (by omega)
  have lT1 := lim_len_pw (n := T + 1) (w := w + 9) (by omega)
  have sq := fix_Mul (a := T) (b := T + 1) (c := T) (d := T + 1) (w := w) (by omega) (by omega) (by omega) (by omega) (by omega) (by omega)
  have S2 : (T + 1) * (T + 1) / 2 ^ w ≤ 2 ^ w * 81 := by
    refine (Nat.div_le_iff_le_mul (by omega)).2 ?_
    have m := Nat.mul_le_mul (show T + 1 ≤ 2 ^ w * 9 by omega) (show T + 1 ≤ 2 ^ w * 9 by omega)
    have e : 2 ^ w * 9 * (2 ^ w * 9) = 2 ^ w * 81 * 2 ^ w := by generalize 2 ^ w = y; grind
    omega
  have S12 : T * T / 2 ^ w ≤ (T + 1) * (T + 1) / 2 ^ w := Nat.div_le_div_right (Nat.mul_le_mul (by omega) (by omega))
  generalize T * T / 2 ^ w = s1 at *
  generalize (T + 1) * (T + 1) / 2 ^ w = s2 at *
  have om := nat_Of many (by omega)
  have o1 := fix_One
  have l1 := lim_len1
  have lm : (lim many).length ≤ 2 := lim_len_lt (by omega)
  have ls1 := lim_len_pw (n := s1) (w := w + 8) (by omega)
  have ls2 := lim_len_pw (n := s2 + 1) (w := w + 8) (by omega)
  have ti := fix_Times (a := s1) (b := s2 + 1) (n := many) (d := 1) (by omega) (by omega) (by omega) (by omega) (by omega)
  have q1 : s1 * many / 1 ≤ (s2 + 1) * many / 1 + 1 := Nat.le_succ_of_le (Nat.div_le_div_right (Nat.mul_le_mul_right _ (by omega)))
  have q2 : (s2 + 1) * many / 1 + 1 ≤ 2 ^ (w + 8) := by
    rw [Nat.div_one]
    have := Nat.mul_le_mul_left (s2 + 1) hm2
    omega
  generalize s1 * many / 1 = Q1 at *
  generalize (s2 + 1) * many / 1 + 1 = Q2 at *
  have lQ1 := lim_len_pw (n := Q1) (w := w + 9) (by omega)
  have lQ2 := lim_len_pw (n := Q2) (w := w + 9) (by omega)
  have i0 := tInv_0 (w := w) (k0 := 3) (t1 := T) (t2 := T + 1) (a1 := T) (a2 := T + 1) (by omega) (by omega) (by omega) (by omega)
  obtain ⟨F, hF⟩ : ∃ F : Nat, F = 5200 := ⟨_, rfl⟩
  obtain ⟨A, B, hr, hAB, hB⟩ := tRow_end (w := w) (Y1 := Q1) (Y2 := Q2) (M := many * 128) (k0 := 3) q2 q1 (by omega) (by omega) (by omega) 1023 F 0 3 T (T + 1) T (T + 1) i0 (by omega) (by omega) (by omega)
  refine ⟨A, B, hAB, hB, fun s => ?_⟩
  have lens := fun (i k t1 t2 a1 a2 : Nat) (hi : i ≤ F) (h : tInv w 3 i k t1 t2 a1 a2) => (show (lim t1).length ≤ 1000 ∧ (lim t2).length ≤ 1000 ∧ (lim a1).length ≤ 1000 ∧ (lim a2).length ≤ 1000 from by
    obtain ⟨h1, h2, h3, h4, h5⟩ := h
    have a := lim_len_pw h4
    have b := lim_len_mono h2
    have up : (i + 2) * 2 ^ (w + 10000) ≤ 2 ^ (w + 10014) := by
      have e : 2 ^ (w + 10014) = 16384 * 2 ^ (w + 10000) := by rw [show w + 10014 = 14 + (w + 10000) by omega, Nat.pow_add 2 14]
      rw [e]; exact Nat.mul_le_mul_right _ (by omega)
    have c := lim_len_pw (n := a2) (w := w + 10014) (by omega)
    have d := lim_len_mono h3
    exact ⟨by omega, by omega, by omega, by omega⟩)
  have step := fun (i k t1 t2 a1 a2 : Nat) (h : tInv w 3 i k t1 t2 a1 a2) => tInv_step (Y1 := Q1) (Y2 := Q2) q2 q1 (by omega) h
  have frs := fr s
  have shl : (many : Int) * 2 ^ 7 = ((many * 128 : Nat) : Int) := by omega
  clear fr ls1 ls2 S2 S12 Tle e8 e9 e10 hB hAB
  refine Go.Ev.Fn.intro (fn := Tryz.f146) (body := (Tryz.f146).body.get!) (by kernel_rfl) (by kernel_rfl) (by kernel_rfl) (fun _ => rfl) (Nat.le_of_ble_eq_true (by kernel_rfl)) ?_; unfold Tryz.f146; simp only [Option.get!_some]
  repeat (first | (simp only [go_sem, Nat.reduceEqDiff, Nat.reduceAdd, Nat.reduceSub, Nat.reduceMul, Nat.reduceLeDiff, Nat.reduceLT, reduceIte, reduceCtorEq, Nat.succ_ne_zero, elemsC, Int.reduceToNat, Nat.reducePow]) | (simp (disch := (first | omega | (simp only [AL, List.length_map]; omega))) only [AR, AL, ifT, ifF, take_all, List.length_cons, List.length_nil, Int.reduceToNat, Int.reducePow, Nat.reducePow]) | (refine wk_intro (by kernel_rfl) ?_) | (refine vf_of (by first | exact frs | exact sq | exact om | exact o1 | exact ti) ?_))
  refine vp_loop_inv (fun s' => s'.tmp 1 = .sv (.int .u64 (many : Int)) ∧ s'.tmp 2 = .sv (.int .i64 (w : Int)) ∧ s'.tmp 6 = .ptr 6 0 0 ∧ s'.obj 6 0 = some [.sl 0 [], .sl 0 []] ∧ s'.tmp 7 = .ptr 7 0 0 ∧ s'.tmp 8 = .ptr 8 0 0 ∧ s'.obj 8 0 = some [natV (lim Q1), natV (lim Q2)] ∧ s'.tmp 9 = .ptr 9 0 0 ∧
      ∃ f i k t1 t2 a1 a2 : Nat, s'.tmp 10 = .sv (.int .u64 (k : Int)) ∧ f + i = F ∧ tRow w Q1 Q2 (many * 128) f k t1 t2 a1 a2 = some (A, B) ∧ s'.obj 7 0 = some [natV (lim t1), natV (lim t2)] ∧ s'.obj 9 0 = some [natV (lim a1), natV (lim a2)] ∧ tInv w 3 i k t1 t2 a1 a2)
    (fun s' => match s'.tmp 10 with | .sv (.int _ i) => 20000 - i.toNat | _ => 0) ⟨rfl, rfl, rfl, rfl, rfl, rfl, rfl, rfl, F, 0, 3, T, T + 1, T, T + 1, rfl, by omega, hr, rfl, rfl, i0⟩ ?_
  rintro s' ⟨i1, i2, i6, o6, i7, i8, o8, i9, f, i, k, t1, t2, a1, a2, i10, hfi, hgo, o7, o9, hok⟩
  obtain ⟨lt1, lt2, la1, la2⟩ := lens i k t1 t2 a1 a2 (by omega) hok
  have hk := hok.1
  have st := step i k t1 t2 a1 a2 hok
  have sm := fix_Small (a := t1) (b := t2) (by omega) (k := 2) (by omega)
  cases f with
  | zero => simp only [tRow] at hgo; cases hgo
  | succ f =>
    rw [tRow] at hgo
    by_cases hs : many * 128 ≤ k ∧ t2 < 4
    · rw [if_pos hs] at hgo
      simp only [Option.some.injEq, Prod.mk.injEq] at hgo
      obtain ⟨rfl, rfl⟩ := hgo
      rw [decide_eq_true (show t2 < 2 ^ 2 from hs.2)] at sm
      have wd := fix_Wider (a := a1) (b := a2) (n := 8) (by omega) (by omega) (by omega)
      have hs1 := hs.1
      clear step lens st hr
      repeat (first | (simp only [go_sem, Nat.reduceEqDiff, Nat.reduceAdd, Nat.reduceSub, Nat.reduceMul, Nat.reduceLeDiff, Nat.reduceLT, reduceIte, reduceCtorEq, Nat.succ_ne_zero, elemsC, Int.reduceToNat, Nat.reducePow, i1, i2, i6, o6, i7, i8, o8, i9, i10, o7, o9, shl, Bool.not_true]) | (simp (disch := (first | omega | (simp only [AL, List.length_map]; omega))) only [AR, AL, ifT, ifF, take_all, List.length_cons, List.length_nil, Int.reduceToNat, Int.reducePow, Nat.reducePow, i1, i2, i6, o6, i7, i8, o8, i9, i10, o7, o9, shl, Bool.not_true]) | (refine wk_intro (by kernel_rfl) ?_) | (refine vf_of (by first | exact sm | exact wd) ?_))
    · rw [if_neg hs] at hgo
      obtain ⟨lu1, lu2, lb1, lb2⟩ := lens (i + 1) (k + 2) _ _ _ _ (by omega) st
      have mu := fix_Mul (a := t1) (b := t2) (c := Q1) (d := Q2) (w := w) (by omega) (by omega) (by omega) (by omega) (by omega) (by omega)
      have qk := nat_Of k (by omega)
      have lq : (lim k).length ≤ 2 := lim_len_lt (by omega)
      have z1 := lim_len_mul (a := t1) (b := Q1)
      have z2 := lim_len_mul (a := t2) (b := Q2)
      have z3 := lim_len_mono (Nat.div_le_self (t1 * Q1) (2 ^ w))
      have z4 := lim_len_add (a := t2 * Q2 / 2 ^ w) (b := 1) (L := 5000) (Nat.le_trans (lim_len_mono (Nat.div_le_self (t2 * Q2) (2 ^ w))) (by omega)) (by omega)
      have tk := fix_Times (a := t1 * Q1 / 2 ^ w) (b := t2 * Q2 / 2 ^ w + 1) (n := 1) (d := k) (by omega) (by omega) (by omega) (by omega) (by omega)
      generalize t1 * Q1 / 2 ^ w * 1 / k = u1 at *
      generalize (t2 * Q2 / 2 ^ w + 1) * 1 / k + 1 = u2 at *
      generalize t1 * Q1 / 2 ^ w = v1 at *
      generalize t2 * Q2 / 2 ^ w + 1 = v2 at *
      have ad := fix_Add (a := a1) (b := a2) (c := u1) (d := u2) (by omega) (by omega) (by omega) (by omega)
      clear step lens hr
      by_cases hs1 : k < many * 128
      · clear sm
        repeat (first | (simp only [go_sem, Nat.reduceEqDiff, Nat.reduceAdd, Nat.reduceSub, Nat.reduceMul, Nat.reduceLeDiff, Nat.reduceLT, reduceIte, reduceCtorEq, Nat.succ_ne_zero, elemsC, Int.reduceToNat, Nat.reducePow, i1, i2, i6, o6, i7, i8, o8, i9, i10, o7, o9, shl]) | (simp (disch := (first | omega | (simp only [AL, List.length_map]; omega))) only [AR, AL, ifT, ifF, take_all, List.length_cons, List.length_nil, Int.reduceToNat, Int.reducePow, Nat.reducePow, i1, i2, i6, o6, i7, i8, o8, i9, i10, o7, o9, shl]) | (refine wk_intro (by kernel_rfl) ?_) | (refine vf_of (by first | exact mu | exact o1 | exact qk | exact tk | exact ad) ?_))
        exact ⟨⟨f, i + 1, k + 2, u1, u2, a1 + u1, a2 + u2, rfl, by omega, hgo, rfl, rfl, st⟩, by omega⟩
      · rw [decide_eq_false (show ¬ t2 < 2 ^ 2 from fun h => hs ⟨by omega, h⟩)] at sm
        repeat (first | (simp only [go_sem, Nat.reduceEqDiff, Nat.reduceAdd, Nat.reduceSub, Nat.reduceMul, Nat.reduceLeDiff, Nat.reduceLT, reduceIte, reduceCtorEq, Nat.succ_ne_zero, elemsC, Int.reduceToNat, Nat.reducePow, i1, i2, i6, o6, i7, i8, o8, i9, i10, o7, o9, shl, Bool.not_false]) | (simp (disch := (first | omega | (simp only [AL, List.length_map]; omega))) only [AR, AL, ifT, ifF, take_all, List.length_cons, List.length_nil, Int.reduceToNat, Int.reducePow, Nat.reducePow, i1, i2, i6, o6, i7, i8, o8, i9, i10, o7, o9, shl, Bool.not_false]) | (refine wk_intro (by kernel_rfl) ?_) | (refine vf_of (by first | exact sm | exact mu | exact o1 | exact qk | exact tk | exact ad) ?_))
        exact ⟨⟨f, i + 1, k + 2, u1, u2, a1 + u1, a2 + u2, rfl, by omega, hgo, rfl, rfl, st⟩, by omega⟩
end
end Go.Proofs.YtemnjalaincijaaGreat

/- bell: area, Phi, Tail, Density, Erf of a number and of its opposite; ball: Neg, Add, in the evaluator. -/
namespace Go.Proofs.YtemnjalaincijaaGreat
set_option linter.unusedSimpArgs false
set_option linter.unusedVariables false
set_option maxRecDepth 8000
open Go.Ev
set_option linter.unusedVariables false
theorem ball_Neg {a b : Rat} {L : Nat} (ha : szR a L) (hb : szR b L) (hL1 : 1 ≤ L) (hL : L ≤ 100000) : Go.Ev.Fn CX 96 [ballR a b] (ballR (-b) (-a)) := by
  have n1 := rat_Neg (RatA_rv ha) hL1 (by omega)
  have n2 := rat_Neg (RatA_rv hb) hL1 (by omega)
  generalize -a = u at *
  generalize -b = w at *
  refine Go.Ev.Fn.intro (fn := Tryz.f96) (body := (Tryz.f96).body.get!) (by kernel_rfl) (by kernel_rfl) (by kernel_rfl) (fun _ => rfl) (Nat.le_of_ble_eq_true (by kernel_rfl)) ?_; unfold Tryz.f96; simp only [Option.get!_some]
  repeat (first | (simp only [go_sem, Nat.reduceEqDiff, Nat.reduceAdd, Nat.reduceSub, Nat.reduceMul, Nat.reduceLeDiff, Nat.reduceLT, reduceIte, reduceCtorEq, Nat.succ_ne_zero, elemsC, Int.reduceToNat, Nat.reducePow]) | (simp (disch := (first | omega | (simp only [AL, List.length_map]; omega))) only [AR, AL, ifT, ifF, take_all, List.length_cons, List.length_nil, Int.reduceToNat, Int.reducePow, Nat.reducePow]) | (refine wk_intro (by kernel_rfl) ?_) | (refine vp_draw (id := 1) (l := []) (by kernel_rfl) ?_) | (refine vf_of (by first | exact n2 | exact n1) ?_))
theorem ball_Add {a b c d : Rat} {L M : Nat} (ha : szR a L) (hb : szR b L) (hc : szR c M) (hd : szR d M) (hL1 : 1 ≤ L) (hM1 : 1 ≤ M) (hL : L + M ≤ 100000) : Go.Ev.Fn CX 97 [ballR a b, ballR c d] (ballR (a + c) (b + d)) := by
  have s1 := rat_Add (RatA_rv ha) (RatA_rv hc) hL1 hM1 (by omega)
  have s2 := rat_Add (RatA_rv hb) (RatA_rv hd) hL1 hM1 (by omega)
  generalize a + c = x at *
  generalize b + d = y at *
  refine Go.Ev.Fn.intro (fn := Tryz.f97) (body := (Tryz.f97).body.get!) (by kernel_rfl) (by kernel_rfl) (by kernel_rfl) (fun _ => rfl) (Nat.le_of_ble_eq_true (by kernel_rfl)) ?_; unfold Tryz.f97; simp only [Option.get!_some]
  repeat (first | (simp only [go_sem, Nat.reduceEqDiff, Nat.reduceAdd, Nat.reduceSub, Nat.reduceMul, Nat.reduceLeDiff, Nat.reduceLT, reduceIte, reduceCtorEq, Nat.succ_ne_zero, elemsC, Int.reduceToNat, Nat.reducePow]) | (simp (disch := (first | omega | (simp only [AL, List.length_map]; omega))) only [AR, AL, ifT, ifF, take_all, List.length_cons, List.length_nil, Int.reduceToNat, Int.reducePow, Nat.reducePow]) | (refine wk_intro (by kernel_rfl) ?_) | (refine vp_draw (id := 1) (l := []) (by kernel_rfl) ?_) | (refine vf_of (by first | exact s1 | exact s2) ?_))
theorem rv_neg (z : Rat) : ∃ s : Bool, rv (-z) = ratV s (lim z.num.natAbs) (lim z.den) := by
  refine ⟨decide ((-z).num < 0), ?_⟩
  show ratV (decide ((-z).num < 0)) (lim (-z).num.natAbs) (lim (-z).den) = _
  rw [Rat.neg_num, Rat.neg_den, Int.natAbs_neg]
theorem two_len : szR 2 1 := ⟨lim_len_lt (by decide +kernel), lim_len_lt (by decide +kernel)⟩
theorem den_le {q : Rat} {L : Nat} (h : szR q L) (hL : L ≤ 7) : q.den ≤ 2 ^ 240 := by
  have a : q.den < 4294967296 ^ (lim q.den).length := lim_len_pow
  have b : 4294967296 ^ (lim q.den).length ≤ 4294967296 ^ 7 := Nat.pow_le_pow_right (by omega) (Nat.le_trans h.2 hL)
  have c : 4294967296 ^ 7 ≤ 2 ^ 240 := by decide +kernel
  omega
theorem num_le8 {z : Rat} (h0 : 0 ≤ z) (h : z ≤ 8) : z.num.natAbs ≤ 8 * z.den := by
  have d := Ex.denR z
  have dR : (0 : Rat) < (z.den : Rat) := by exact_mod_cast z.den_pos
  have nn : 0 ≤ z.num := Rat.num_nonneg.2 h0
  have m := Rat.mul_le_mul_of_nonneg_right h (Rat.le_of_lt dR)
  rw [d] at m
  have k : z.num ≤ 8 * (z.den : Int) := by
    have : (z.num : Rat) ≤ ((8 * (z.den : Int) : Int) : Rat) := by rw [Rat.intCast_mul]; exact m
    exact Rat.intCast_le_intCast.1 this
  omega
theorem neg64 {q : Rat} (h0 : 0 ≤ q) (h : q ≤ 64) : -64 ≤ -q ∧ -q ≤ 0 := by constructor <;> grind
theorem sq_same {y z : Rat} (h : y = z ∨ y = -z) : y * y = z * z := by rcases h with rfl | rfl <;> grind
theorem sq_bd {z : Rat} (h0 : 0 ≤ z) (h : z ≤ 8) : 0 ≤ z * z ∧ z * z ≤ 64 := by
  have a := Rat.mul_nonneg h0 h0
  have b := Rat.mul_le_mul_of_nonneg_left h h0
  exact ⟨a, by grind⟩
section
variable {z : Rat} {w P : Nat} {pI : Int}
/-- The area below the curve, of a number and of its opposite. -/
theorem bell_area {many S1 S2 : Nat} (hz : szR z 3) (h0 : 0 ≤ z) (h8 : z ≤ 8) (hm : 1 ≤ many) (hm2 : many ≤ 2) (hw0 : 8 ≤ w) (hw : w ≤ 500) (hS : S1 ≤ S2) (hS2 : S2 ≤ 2 ^ (w + 2)) :
    ∃ A B : Nat, A ≤ B ∧ B < 2 ^ (w + 10030) ∧ ∀ y : Rat, y = z ∨ y = -z → Go.Ev.Fn CX 94 [rv y, .int .u64 (many : Int), spanV S1 S2, .int .i64 (w : Int)] (spanV A B) := by
  have zp := Nat.le_trans hz.1 (show 3 ≤ 100 by omega)
  have zd := Nat.le_trans hz.2 (show 3 ≤ 100 by omega)
  obtain ⟨R1, R2, r1, r2, fr⟩ := bell_row (n := z.num.natAbs) (d := z.den) (many := many) (w := w) z.den_pos (num_le8 h0 h8) hm hm2 zp zd hw0 (by omega)
  obtain ⟨q0, q64⟩ := sq_bd h0 h8
  obtain ⟨sq, hsq, sqz, sq1, sq2⟩ : ∃ sq : Rat, sq = (if many = 1 then z * z / 2 else z * z) ∧ szR sq 7 ∧ 0 ≤ sq ∧ sq ≤ 64 := by
    by_cases e : many = 1
    · refine ⟨_, rfl, ?_, ?_⟩ <;> rw [if_pos e]
      · exact szR_mono (szR_div (szR_mul hz hz (by omega)) two_len (by omega) (by omega)) (by omega)
      · have hh : z * z / 2 * 2 = z * z := Rat.div_mul_cancel (by decide)
        generalize z * z / 2 = t at *
        clear r1 r2 fr
        constructor <;> grind
    · refine ⟨_, rfl, ?_, ?_⟩ <;> rw [if_neg e]
      · exact szR_mono (szR_mul hz hz (by omega)) (by omega)
      · exact ⟨q0, q64⟩
  have zn := szR_neg sqz
  obtain ⟨F1, F2, f1, -, f2, ff, -⟩ := bell_fall (z := -sq) (w := w) (RatA_rv zn) (by omega) (by omega) (neg64 sq1 sq2).1 (neg64 sq1 sq2).2 (den_le zn (by omega)) (by omega)
  have ng := rat_Neg (RatA_rv sqz) (by omega) (by omega)
  have i2 := rat_Int 2 (by omega)
  have dv := rat_Div (RatA_rv (szR_mul hz hz (by omega))) (RatA_rv (int_szR (n := 2) (by omega))) (by omega) (by omega) (by omega)
  rw [show ((2 : Int) : Rat) = 2 from rfl] at i2 dv
  rw [decide_eq_true (show ¬ (2 : Rat) = 0 by decide)] at dv
  have P2 : 2 ^ 8 ≤ 2 ^ w := Nat.pow_le_pow_right (by omega) hw0
  have e1 : 2 ^ (w + 2) = 2 ^ w * 4 := Nat.pow_add _ _ _
  have lR2 := lim_len_pw r2
  have lR1 := lim_len_mono r1
  have lF2 := lim_len_pw (n := F2) (w := w + 2) (by omega)
  have lF1 := lim_len_mono f1
  have lS2 := lim_len_pw (n := S2) (w := w + 3) (by rw [Nat.pow_add]; omega)
  have lS1 := lim_len_mono hS
  have m1 := fix_Mul (a := R1) (b := R2) (c := F1) (d := F2) (w := w) (by omega) (by omega) (by omega) (by omega) (by omega) (by omega)
  have u1 : R1 * F1 / 2 ^ w ≤ R2 * F2 / 2 ^ w + 1 := Nat.le_succ_of_le (Nat.div_le_div_right (Nat.mul_le_mul r1 f1))
  have u2 : R2 * F2 / 2 ^ w + 1 < 2 ^ (w + 10018) := by
    have a : R2 * F2 / 2 ^ w ≤ 2 ^ (w + 10014) * 4 := by
      refine (Nat.div_le_iff_le_mul (by omega)).2 ?_
      have b := Nat.mul_le_mul (Nat.le_of_lt r2) (show F2 ≤ 4 * 2 ^ w by omega)
      rw [← Nat.mul_assoc] at b
      omega
    have e : 2 ^ (w + 10018) = 2 ^ (w + 10014) * 16 := by rw [show w + 10018 = w + 10014 + 4 by omega, Nat.pow_add _ _ 4]
    have : 2 ^ 1 ≤ 2 ^ (w + 10014) := Nat.pow_le_pow_right (by omega) (by omega)
    omega
  generalize R1 * F1 / 2 ^ w = U1 at *
  generalize R2 * F2 / 2 ^ w + 1 = U2 at *
  have lU2 := lim_len_pw u2
  have lU1 := lim_len_mono u1
  have m2 := fix_Mul (a := U1) (b := U2) (c := S1) (d := S2) (w := w) (by omega) (by omega) (by omega) (by omega) (by omega) (by omega)
  refine ⟨U1 * S1 / 2 ^ w, U2 * S2 / 2 ^ w + 1, Nat.le_succ_of_le (Nat.div_le_div_right (Nat.mul_le_mul u1 hS)), ?_, fun y hy => ?_⟩
  · have a : U2 * S2 / 2 ^ w ≤ 2 ^ (w + 10018) * 4 := by
      refine (Nat.div_le_iff_le_mul (by omega)).2 ?_
      have b := Nat.mul_le_mul (Nat.le_of_lt u2) (show S2 ≤ 4 * 2 ^ w by omega)
      rw [← Nat.mul_assoc] at b
      omega
    have e : 2 ^ (w + 10030) = 2 ^ (w + 10018) * 4096 := by rw [show w + 10030 = w + 10018 + 12 by omega, Nat.pow_add _ _ 12]
    have : 2 ^ 1 ≤ 2 ^ (w + 10018) := Nat.pow_le_pow_right (by omega) (by omega)
    omega
  · obtain ⟨s, hs⟩ : ∃ s : Bool, rv y = ratV s (lim z.num.natAbs) (lim z.den) := by
      rcases hy with rfl | rfl
      · exact ⟨_, rfl⟩
      · exact rv_neg z
    have zy : szR y 3 := by
      rcases hy with rfl | rfl
      · exact hz
      · exact szR_neg hz
    have mu := rat_Mul (RatA_rv zy) (RatA_rv zy) (by omega) (by omega) (by omega)
    have yy := sq_same hy
    rw [yy, hs] at mu
    rw [hs]
    have frs := fr s
    generalize U1 * S1 / 2 ^ w = V1 at *
    generalize U2 * S2 / 2 ^ w + 1 = V2 at *
    clear fr yy zy hy hs e1 P2 u1 u2 r1 r2
    by_cases e : many = 1
    · subst e
      rw [if_pos rfl] at hsq
      rw [← hsq] at dv
      clear hsq sqz sq1 sq2 q0 q64
      generalize z * z = zz at *
      generalize -sq = nsq at *
      refine Go.Ev.Fn.intro (fn := Tryz.f94) (body := (Tryz.f94).body.get!) (by kernel_rfl) (by kernel_rfl) (by kernel_rfl) (fun _ => rfl) (Nat.le_of_ble_eq_true (by kernel_rfl)) ?_; unfold Tryz.f94; simp only [Option.get!_some]
      repeat (first | (simp only [go_sem, Nat.reduceEqDiff, Nat.reduceAdd, Nat.reduceSub, Nat.reduceMul, Nat.reduceLeDiff, Nat.reduceLT, reduceIte, reduceCtorEq, Nat.succ_ne_zero, elemsC, Int.reduceToNat, Nat.reducePow]) | (simp (disch := (first | omega | (simp only [AL, List.length_map]; omega))) only [AR, AL, ifT, ifF, take_all, List.length_cons, List.length_nil, Int.reduceToNat, Int.reducePow, Nat.reducePow]) | (refine wk_intro (by kernel_rfl) ?_) | (refine vp_draw (id := 3) (l := []) (by kernel_rfl) ?_) | (refine vp_draw (id := 4) (l := []) (by kernel_rfl) ?_) | (refine vf_of (by first | exact mu | exact i2 | exact dv | exact frs | exact ng | exact ff | exact m1 | exact m2) ?_))
    · have e2 : many = 2 := by omega
      subst e2
      rw [if_neg (by omega)] at hsq
      rw [← hsq] at mu
      clear hsq sqz sq1 sq2 q0 q64 dv
      generalize -sq = nsq at *
      refine Go.Ev.Fn.intro (fn := Tryz.f94) (body := (Tryz.f94).body.get!) (by kernel_rfl) (by kernel_rfl) (by kernel_rfl) (fun _ => rfl) (Nat.le_of_ble_eq_true (by kernel_rfl)) ?_; unfold Tryz.f94; simp only [Option.get!_some]
      repeat (first | (simp only [go_sem, Nat.reduceEqDiff, Nat.reduceAdd, Nat.reduceSub, Nat.reduceMul, Nat.reduceLeDiff, Nat.reduceLT, reduceIte, reduceCtorEq, Nat.succ_ne_zero, elemsC, Int.reduceToNat, Nat.reducePow]) | (simp (disch := (first | omega | (simp only [AL, List.length_map]; omega))) only [AR, AL, ifT, ifF, take_all, List.length_cons, List.length_nil, Int.reduceToNat, Int.reducePow, Nat.reducePow]) | (refine wk_intro (by kernel_rfl) ?_) | (refine vp_draw (id := 3) (l := []) (by kernel_rfl) ?_) | (refine vp_draw (id := 4) (l := []) (by kernel_rfl) ?_) | (refine vf_of (by first | exact mu | exact frs | exact ng | exact ff | exact m1 | exact m2) ?_))
end
end Go.Proofs.YtemnjalaincijaaGreat

/- bell: Phi, Tail, Density, Erf of a number and of its opposite, in the evaluator. -/
namespace Go.Proofs.YtemnjalaincijaaGreat
set_option linter.unusedSimpArgs false
set_option linter.unusedVariables false
set_option maxRecDepth 8000
open Go.Ev
set_option linter.unusedVariables false
theorem half_div : ((1 : Int) : Rat) / ((2 : Int) : Rat) = 1 / 2 := rfl
theorem hlf_len : szR (1 / 2) 1 := ⟨lim_len_lt (by decide +kernel), lim_len_lt (by decide +kernel)⟩
theorem unit_len : szR 1 1 := ⟨lim_len_lt (by decide +kernel), lim_len_lt (by decide +kernel)⟩
/-- What is told of a span. -/
theorem told_span {A B w p : Nat} (hAB : A ≤ B) (hB : B < 2 ^ (w + 10040)) (hp : p < w) (hw : w ≤ 500) :
    ∃ l h : Rat, l ≤ h ∧ 0 ≤ l ∧ szR l 400 ∧ szR h 400 ∧ l = mkRat ((A / 2 ^ (w - p) : Nat) : Int) (2 ^ p) ∧ h = mkRat ((B / 2 ^ (w - p) + 1 : Nat) : Int) (2 ^ p) ∧ Go.Ev.Fn CX 63 [spanV A B, .int .i64 (w : Int), .int .i64 (p : Int)] (ballR l h) := by
  have lB := lim_len_pw hB
  have lA := lim_len_mono hAB
  have t := fix_Told (a := A) (b := B) (w := w) (p := p) (by omega) (by omega) hp (by omega)
  have P := p2_pos p
  have a := mk_p2 (A / 2 ^ (w - p)) p
  have b := mk_p2 (B / 2 ^ (w - p) + 1) p
  have d : A / 2 ^ (w - p) ≤ B / 2 ^ (w - p) + 1 := Nat.le_succ_of_le (Nat.div_le_div_right hAB)
  have l1 := lim_len_mono (Nat.div_le_self A (2 ^ (w - p)))
  have l2 := lim_len_mono (Nat.div_le_self B (2 ^ (w - p)))
  have l3 := lim_len_add (a := B / 2 ^ (w - p)) (b := 1) (L := 399) (by omega) (by have := lim_len1; omega)
  have lp := lim_len_shl (a := 1) (n := p)
  rw [Nat.one_mul] at lp
  have lo := lim_len1
  refine ⟨_, _, le_by P ?_, le_by P ?_, szR_nat (by omega) (by omega) (by omega), szR_nat (by omega) (by omega) (by omega), rfl, rfl, t⟩
  · rw [a, b]; exact Ex.castle d
  · rw [a, Rat.zero_mul]; exact nat_nonneg _
section
variable {z : Rat} {P : Nat} {pI : Int}
theorem num_neg_iff {x : Rat} (h : 0 < x) : decide (x.num < 0) = false ∧ decide ((-x).num < 0) = true := by
  have a := neg_numX (x := x)
  have b := neg_numX (x := -x)
  rw [decide_eq_false (show ¬ x < 0 by grind)] at a
  rw [decide_eq_true (show -x < 0 by grind)] at b
  exact ⟨a, b⟩
theorem bell_Phi (hz : szR z 3) (h0 : 0 < z) (h8 : z ≤ 8) (hpI : (pI ≤ 0 ∧ P = 0) ∨ pI = (P : Int)) (hP : P ≤ 96) :
    ∃ l h : Rat, l ≤ h ∧ szR l 400 ∧ szR h 400 ∧ (∀ v, RatA v z 3 → Go.Ev.Fn CX 40 [v, .int .i64 pI] (.tup [ballR (1 / 2 + l) (1 / 2 + h), .bool true])) ∧ (∀ v, RatA v (-z) 3 → Go.Ev.Fn CX 40 [v, .int .i64 pI] (.tup [ballR (1 / 2 + -h) (1 / 2 + -l), .bool true])) := by
  have g1 : -8 ≤ z := by grind
  have g2 : -8 ≤ -z := by grind
  have g3 : -z ≤ 8 := by grind
  have g4 : ¬ z = 0 := by grind
  have g5 : ¬ -z = 0 := by grind
  obtain ⟨S1, S2, r1, r2, fs, s1, s2, -⟩ := bell_share (many := 2) (w := P + 128) (by omega) (by omega) (by omega) (by omega)
  obtain ⟨A, B, a1, a2, fa⟩ := bell_area (many := 1) (w := P + 128) hz (Rat.le_of_lt h0) h8 (by omega) (by omega) (by omega) (by omega) s1 s2
  have e40 : 2 ^ (P + 128 + 10030) ≤ 2 ^ (P + 128 + 10040) := Nat.pow_le_pow_right (by omega) (by omega)
  obtain ⟨l, h, t1, t2, t3, t4, -, -, ft⟩ := told_span (w := P + 128) (p := P + 2) a1 (by omega) (by omega) (by omega)
  have hh := bell_held hpI (show P ≤ 200 by omega)
  have i1 := rat_Int 1 (by omega)
  have i2 := rat_Int 2 (by omega)
  have dv := rat_Div (RatA_rv (int_szR (n := 1) (by omega))) (RatA_rv (int_szR (n := 2) (by omega))) (by omega) (by omega) (by omega)
  rw [half_div, decide_eq_true (show ¬ ((2 : Int) : Rat) = 0 by decide)] at dv
  have oh := ball_Of (RatA_rv hlf_len) (by omega)
  have ng := ball_Neg t3 t4 (by omega) (by omega)
  have ad1 := ball_Add hlf_len hlf_len t3 t4 (by omega) (by omega) (by omega)
  have ad2 := ball_Add hlf_len hlf_len (szR_neg t4) (szR_neg t3) (by omega) (by omega) (by omega)
  obtain ⟨n1, n2⟩ := num_neg_iff h0
  rw [show ((P + 128 : Nat) : Int) = (P : Int) + 128 from rfl] at fs fa ft
  rw [show ((P + 2 : Nat) : Int) = (P : Int) + 2 from rfl] at ft
  refine ⟨l, h, t1, t3, t4, fun v hv => ?_, fun v hv => ?_⟩
  · have fr := bell_nigh hv (by omega) (by omega) g1 h8
    have nm := rat_Norm hv (by omega)
    have zr := rat_Zero (RatA_rv hz) (by omega) (by omega)
    rw [decide_eq_false g4] at zr
    have fa1 := fa z (.inl rfl)
    have erz : rv z = ratV false (lim z.num.natAbs) (lim z.den) := by show ratV (decide (z.num < 0)) _ _ = _; rw [n1]
    rw [erz] at nm zr fa1
    clear fa ad2 ng n2 hz h0 h8 t1 t2 t3 t4 e40 a1 a2 s1 s2
    obtain ⟨s, n, d, rfl, -⟩ := hv
    generalize 1 / 2 + l = q1 at *
    generalize 1 / 2 + h = q2 at *
    generalize (1 / 2 : Rat) = hf at *
    refine Go.Ev.Fn.intro (fn := Tryz.f40) (body := (Tryz.f40).body.get!) (by kernel_rfl) (by kernel_rfl) (by kernel_rfl) (fun _ => rfl) (Nat.le_of_ble_eq_true (by kernel_rfl)) ?_; unfold Tryz.f40; simp only [Option.get!_some]
    repeat (first | (simp only [go_sem, Nat.reduceEqDiff, Nat.reduceAdd, Nat.reduceSub, Nat.reduceMul, Nat.reduceLeDiff, Nat.reduceLT, reduceIte, reduceCtorEq, Nat.succ_ne_zero, elemsC, Int.reduceToNat, Nat.reducePow]) | (simp (disch := (first | omega | (simp only [AL, List.length_map]; omega))) only [AR, AL, ifT, ifF, take_all, List.length_cons, List.length_nil, Int.reduceToNat, Int.reducePow, Nat.reducePow]) | (refine wk_intro (by kernel_rfl) ?_) | (refine vp_draw (id := 8) (l := []) (by kernel_rfl) ?_) | (refine vp_draw (id := 11) (l := []) (by kernel_rfl) ?_) | (refine vf_of (by first | exact fr | exact nm | exact i1 | exact i2 | exact dv | exact zr | exact hh | exact fs | exact fa1 | exact ft | exact oh | exact ad1) ?_))
  · have zn := szR_neg hz
    have fr := bell_nigh hv (by omega) (by omega) g2 g3
    have nm := rat_Norm hv (by omega)
    have zr := rat_Zero (RatA_rv zn) (by omega) (by omega)
    rw [decide_eq_false g5] at zr
    have fa1 := fa (-z) (.inr rfl)
    have erz : rv (-z) = ratV true (lim (-z).num.natAbs) (lim (-z).den) := by show ratV (decide ((-z).num < 0)) _ _ = _; rw [n2]
    rw [erz] at nm zr fa1
    clear fa ad1 n1 hz h0 h8 t1 t2 t3 t4 e40 a1 a2 s1 s2 zn
    obtain ⟨s, n, d, rfl, -⟩ := hv
    generalize 1 / 2 + -h = q1 at *
    generalize 1 / 2 + -l = q2 at *
    generalize (1 / 2 : Rat) = hf at *
    generalize -h = mh at *
    generalize -l = ml at *
    refine Go.Ev.Fn.intro (fn := Tryz.f40) (body := (Tryz.f40).body.get!) (by kernel_rfl) (by kernel_rfl) (by kernel_rfl) (fun _ => rfl) (Nat.le_of_ble_eq_true (by kernel_rfl)) ?_; unfold Tryz.f40; simp only [Option.get!_some]
    repeat (first | (simp only [go_sem, Nat.reduceEqDiff, Nat.reduceAdd, Nat.reduceSub, Nat.reduceMul, Nat.reduceLeDiff, Nat.reduceLT, reduceIte, reduceCtorEq, Nat.succ_ne_zero, elemsC, Int.reduceToNat, Nat.reducePow]) | (simp (disch := (first | omega | (simp only [AL, List.length_map]; omega))) only [AR, AL, ifT, ifF, take_all, List.length_cons, List.length_nil, Int.reduceToNat, Int.reducePow, Nat.reducePow]) | (refine wk_intro (by kernel_rfl) ?_) | (refine vp_draw (id := 8) (l := []) (by kernel_rfl) ?_) | (refine vp_draw (id := 11) (l := []) (by kernel_rfl) ?_) | (refine vf_of (by first | exact fr | exact nm | exact i1 | exact i2 | exact dv | exact zr | exact hh | exact fs | exact fa1 | exact ft | exact ng | exact oh | exact ad2) ?_))
theorem bell_Phi0 {v : SV} (hv : RatA v 0 3) : Go.Ev.Fn CX 40 [v, .int .i64 pI] (.tup [ballR (1 / 2) (1 / 2), .bool true]) := by
  have z0 : szR 0 3 := szR_zero (by omega)
  have fr := bell_nigh hv (by omega) (by omega) (by decide +kernel) (by decide +kernel)
  have nm := rat_Norm hv (by omega)
  have zr := rat_Zero (RatA_rv z0) (by omega) (by omega)
  rw [decide_eq_true rfl] at zr
  have i1 := rat_Int 1 (by omega)
  have i2 := rat_Int 2 (by omega)
  have dv := rat_Div (RatA_rv (int_szR (n := 1) (by omega))) (RatA_rv (int_szR (n := 2) (by omega))) (by omega) (by omega) (by omega)
  rw [half_div, decide_eq_true (show ¬ ((2 : Int) : Rat) = 0 by decide)] at dv
  have oh := ball_Of (RatA_rv hlf_len) (by omega)
  obtain ⟨s, n, d, rfl, -⟩ := hv
  generalize (1 / 2 : Rat) = hf at *
  refine Go.Ev.Fn.intro (fn := Tryz.f40) (body := (Tryz.f40).body.get!) (by kernel_rfl) (by kernel_rfl) (by kernel_rfl) (fun _ => rfl) (Nat.le_of_ble_eq_true (by kernel_rfl)) ?_; unfold Tryz.f40; simp only [Option.get!_some]
  repeat (first | (simp only [go_sem, Nat.reduceEqDiff, Nat.reduceAdd, Nat.reduceSub, Nat.reduceMul, Nat.reduceLeDiff, Nat.reduceLT, reduceIte, reduceCtorEq, Nat.succ_ne_zero, elemsC, Int.reduceToNat, Nat.reducePow]) | (simp (disch := (first | omega | (simp only [AL, List.length_map]; omega))) only [AR, AL, ifT, ifF, take_all, List.length_cons, List.length_nil, Int.reduceToNat, Int.reducePow, Nat.reducePow]) | (refine wk_intro (by kernel_rfl) ?_) | (refine vp_draw (id := 8) (l := []) (by kernel_rfl) ?_) | (refine vp_draw (id := 11) (l := []) (by kernel_rfl) ?_) | (refine vf_of (by first | exact fr | exact nm | exact i1 | exact i2 | exact dv | exact zr | exact oh) ?_))
theorem bell_PhiFar {v : SV} (hv : RatA v z 3) (h : z < -8 ∨ 8 < z) : Go.Ev.Fn CX 40 [v, .int .i64 pI] (.tup [ballR 0 0, .bool false]) := by
  have fr := bell_far hv (by omega) (by omega) h
  have i0 := rat_Int 0 (by omega)
  have o := ball_Of (RatA_rv (int_szR (n := 0) (by omega))) (by omega)
  rw [show ((0 : Int) : Rat) = 0 from rfl] at i0 o
  clear h
  obtain ⟨s, n, d, rfl, -⟩ := hv
  refine Go.Ev.Fn.intro (fn := Tryz.f40) (body := (Tryz.f40).body.get!) (by kernel_rfl) (by kernel_rfl) (by kernel_rfl) (fun _ => rfl) (Nat.le_of_ble_eq_true (by kernel_rfl)) ?_; unfold Tryz.f40; simp only [Option.get!_some]
  repeat (first | (simp only [go_sem, Nat.reduceEqDiff, Nat.reduceAdd, Nat.reduceSub, Nat.reduceMul, Nat.reduceLeDiff, Nat.reduceLT, reduceIte, reduceCtorEq, Nat.succ_ne_zero, elemsC, Int.reduceToNat, Nat.reducePow]) | (simp (disch := (first | omega | (simp only [AL, List.length_map]; omega))) only [AR, AL, ifT, ifF, take_all, List.length_cons, List.length_nil, Int.reduceToNat, Int.reducePow, Nat.reducePow]) | (refine wk_intro (by kernel_rfl) ?_) | (refine vp_draw (id := 8) (l := []) (by kernel_rfl) ?_) | (refine vp_draw (id := 11) (l := []) (by kernel_rfl) ?_) | (refine vf_of (by first | exact fr | exact i0 | exact o) ?_))
theorem bell_Tail {v : SV} {r : SV} {a b : Rat} {ok : Bool} (hv : RatA v z 3) (h : Go.Ev.Fn CX 40 [rv (-z), .int .i64 pI] (.tup [ballR a b, .bool ok])) : Go.Ev.Fn CX 43 [v, .int .i64 pI] (.tup [ballR a b, .bool ok]) := by
  have ng := rat_Neg hv (by omega) (by omega)
  obtain ⟨s, n, d, rfl, -⟩ := hv
  generalize -z = y at *
  refine Go.Ev.Fn.intro (fn := Tryz.f43) (body := (Tryz.f43).body.get!) (by kernel_rfl) (by kernel_rfl) (by kernel_rfl) (fun _ => rfl) (Nat.le_of_ble_eq_true (by kernel_rfl)) ?_; unfold Tryz.f43; simp only [Option.get!_some]
  repeat (first | (simp only [go_sem, Nat.reduceEqDiff, Nat.reduceAdd, Nat.reduceSub, Nat.reduceMul, Nat.reduceLeDiff, Nat.reduceLT, reduceIte, reduceCtorEq, Nat.succ_ne_zero, elemsC, Int.reduceToNat, Nat.reducePow]) | (simp (disch := (first | omega | (simp only [AL, List.length_map]; omega))) only [AR, AL, ifT, ifF, take_all, List.length_cons, List.length_nil, Int.reduceToNat, Int.reducePow, Nat.reducePow]) | (refine wk_intro (by kernel_rfl) ?_) | (refine vf_of (by first | exact ng | exact h) ?_))
end
end Go.Proofs.YtemnjalaincijaaGreat

/- Whether a distribution may be: dist.isDomain, isGreat, Check, Counts; vernierref14.in, Check, Counts, in the evaluator. -/
namespace Go.Proofs.YtemnjalaincijaaGreat
set_option linter.unusedSimpArgs false
set_option linter.unusedVariables false
set_option maxRecDepth 8000
open Go.Ev
/-- A distribution's reading. -/
abbrev distV (k n m : Int) (sa : Bool) (na da : List Nat) (sb : Bool) (nb db : List Nat) : SV :=
  .agg [.int .i64 k, .int .i64 n, .int .i64 m, .bool sa, natV na, natV da, .bool sb, natV nb, natV db]
/-- May a distribution's numbers be, however great they are? -/
def inD (k n m : Int) (a b : Rat) : Bool :=
  if k = 1 then decide (0 < b) else if k = 2 then decide (0 < a) else if k = 3 then decide (1 ≤ n) && decide (0 < a)
  else if k = 4 then decide (1 ≤ n) else if k = 5 then decide (1 ≤ n) else if k = 6 then decide (1 ≤ n) && decide (1 ≤ m) else if k = 7 then decide (1 ≤ n) && decide (1 ≤ m)
  else if k = 8 then decide (0 ≤ n) && (decide (0 ≤ a) && decide (a ≤ 1)) else if k = 9 then decide (0 ≤ a) else false
/-- Are they too great? -/
def gtD (k n m : Int) (a : Rat) : Bool :=
  if k = 3 then decide (256 < n) else if k = 4 then decide (256 < n) else if k = 5 then decide (256 < n) else if k = 6 then decide (256 < n) || decide (256 < m) else if k = 7 then decide (256 < n) || decide (256 < m)
  else if k = 8 then decide (256 < n) else if k = 9 then decide (64 < a) else false
def chkD (k n m : Int) (a b : Rat) : Int := if inD k n m a b then (if gtD k n m a then 7 else 0) else 4
section
variable {k n m : Int} {sa sb : Bool} {na da nb db : List Nat} {a b : Rat} {L : Nat}
theorem dist_above {v : SV} {q : Rat} {L : Nat} (hv : RatA v q L) (hL : 1 ≤ L) (h : L ≤ 1048576) (n : Int) (hn : -9223372036854775808 ≤ n ∧ n < 9223372036854775808) : Go.Ev.Fn CX 166 [v, .int .i64 n] (.bool (decide ((n : Rat) < q))) := by
  have hI := rat_Int n hn
  have hC := rat_Cmp hv (RatA_rv (int_szR (n := n) (by omega))) hL (by omega) (by omega)
  obtain ⟨s, x, d, rfl, -⟩ := hv
  refine Go.Ev.Fn.intro (fn := Tryz.f166) (body := (Tryz.f166).body.get!) (by kernel_rfl) (by kernel_rfl) (by kernel_rfl) (fun _ => rfl) (Nat.le_of_ble_eq_true (by kernel_rfl)) ?_; unfold Tryz.f166; simp only [Option.get!_some]
  repeat (first | (simp only [go_sem, Nat.reduceEqDiff, Nat.reduceAdd, Nat.reduceSub, Nat.reduceMul, Nat.reduceLeDiff, Nat.reduceLT, reduceIte, reduceCtorEq, Nat.succ_ne_zero, elemsC, Int.reduceToNat, Nat.reducePow, cmpR_gt]) | (simp (disch := (first | omega | (simp only [AL, List.length_map]; omega))) only [AR, AL, ifT, ifF, take_all, List.length_cons, List.length_nil, Int.reduceToNat, Int.reducePow, Nat.reducePow, cmpR_gt]) | (refine wk_intro (by kernel_rfl) ?_) | (refine vp_draw (id := 1) (l := []) (by kernel_rfl) ?_) | (refine vf_of (by first | exact hI | exact hC) ?_))
theorem dist_below {v : SV} {q : Rat} {L : Nat} (hv : RatA v q L) (hL : 1 ≤ L) (h : L ≤ 1048576) (n : Int) (hn : -9223372036854775808 ≤ n ∧ n < 9223372036854775808) : Go.Ev.Fn CX 165 [v, .int .i64 n] (.bool (decide (q < (n : Rat)))) := by
  have hI := rat_Int n hn
  have hC := rat_Cmp hv (RatA_rv (int_szR (n := n) (by omega))) hL (by omega) (by omega)
  obtain ⟨s, x, d, rfl, -⟩ := hv
  refine Go.Ev.Fn.intro (fn := Tryz.f165) (body := (Tryz.f165).body.get!) (by kernel_rfl) (by kernel_rfl) (by kernel_rfl) (fun _ => rfl) (Nat.le_of_ble_eq_true (by kernel_rfl)) ?_; unfold Tryz.f165; simp only [Option.get!_some]
  repeat (first | (simp only [go_sem, Nat.reduceEqDiff, Nat.reduceAdd, Nat.reduceSub, Nat.reduceMul, Nat.reduceLeDiff, Nat.reduceLT, reduceIte, reduceCtorEq, Nat.succ_ne_zero, elemsC, Int.reduceToNat, Nat.reducePow, cmpR_lt]) | (simp (disch := (first | omega | (simp only [AL, List.length_map]; omega))) only [AR, AL, ifT, ifF, take_all, List.length_cons, List.length_nil, Int.reduceToNat, Int.reducePow, Nat.reducePow, cmpR_lt]) | (refine wk_intro (by kernel_rfl) ?_) | (refine vp_draw (id := 1) (l := []) (by kernel_rfl) ?_) | (refine vf_of (by first | exact hI | exact hC) ?_))
theorem kinds (k : Int) : k = 1 ∨ k = 2 ∨ k = 3 ∨ k = 4 ∨ k = 5 ∨ k = 6 ∨ k = 7 ∨ k = 8 ∨ k = 9 ∨ (k ≠ 1 ∧ k ≠ 2 ∧ k ≠ 3 ∧ k ≠ 4 ∧ k ≠ 5 ∧ k ≠ 6 ∧ k ≠ 7 ∧ k ≠ 8 ∧ k ≠ 9) := by omega
theorem not_lt_dec {q r : Rat} : (!decide (q < r)) = decide (r ≤ q) := by
  by_cases h : q < r
  · rw [decide_eq_true h, decide_eq_false (show ¬ r ≤ q by grind)]; rfl
  · rw [decide_eq_false h, decide_eq_true (show r ≤ q by grind)]; rfl
theorem dist_isDomain (hA : RatA (ratV sa na da) a L) (hB : RatA (ratV sb nb db) b L) (hL : 1 ≤ L) (h : L ≤ 1048576) : Go.Ev.Fn CX 161 [distV k n m sa na da sb nb db] (.bool (inD k n m a b)) := by
  have a0 := dist_above hA hL h 0 (by omega)
  have a1 := dist_above hA hL h 1 (by omega)
  have b0 := dist_above hB hL h 0 (by omega)
  have l0 := dist_below hA hL h 0 (by omega)
  rw [show ((0 : Int) : Rat) = 0 from rfl] at a0 b0 l0
  rw [show ((1 : Int) : Rat) = 1 from rfl] at a1
  refine Go.Ev.Fn.intro (fn := Tryz.f161) (body := (Tryz.f161).body.get!) (by kernel_rfl) (by kernel_rfl) (by kernel_rfl) (fun _ => rfl) (Nat.le_of_ble_eq_true (by kernel_rfl)) ?_; unfold Tryz.f161; simp only [Option.get!_some]
  rcases kinds k with rfl | rfl | rfl | rfl | rfl | rfl | rfl | rfl | rfl | ⟨k1, k2, k3, k4, k5, k6, k7, k8, k9⟩
  · repeat (first | (simp only [go_sem, Nat.reduceEqDiff, Nat.reduceAdd, Nat.reduceSub, Nat.reduceMul, Nat.reduceLeDiff, Nat.reduceLT, reduceIte, reduceCtorEq, Nat.succ_ne_zero, elemsC, Int.reduceToNat, Nat.reducePow]) | (simp (disch := (first | omega | (simp only [AL, List.length_map]; omega))) only [AR, AL, ifT, ifF, take_all, List.length_cons, List.length_nil, Int.reduceToNat, Int.reducePow, Nat.reducePow]) | (refine wk_intro (by kernel_rfl) ?_))
    refine vf_of (b0) ?_; repeat (first | (simp only [go_sem, Nat.reduceEqDiff, Nat.reduceAdd, Nat.reduceSub, Nat.reduceMul, Nat.reduceLeDiff, Nat.reduceLT, reduceIte, reduceCtorEq, Nat.succ_ne_zero, elemsC, Int.reduceToNat, Nat.reducePow]) | (simp (disch := (first | omega | (simp only [AL, List.length_map]; omega))) only [AR, AL, ifT, ifF, take_all, List.length_cons, List.length_nil, Int.reduceToNat, Int.reducePow, Nat.reducePow]) | (refine wk_intro (by kernel_rfl) ?_))
    rfl
  · repeat (first | (simp only [go_sem, Nat.reduceEqDiff, Nat.reduceAdd, Nat.reduceSub, Nat.reduceMul, Nat.reduceLeDiff, Nat.reduceLT, reduceIte, reduceCtorEq, Nat.succ_ne_zero, elemsC, Int.reduceToNat, Nat.reducePow]) | (simp (disch := (first | omega | (simp only [AL, List.length_map]; omega))) only [AR, AL, ifT, ifF, take_all, List.length_cons, List.length_nil, Int.reduceToNat, Int.reducePow, Nat.reducePow]) | (refine wk_intro (by kernel_rfl) ?_))
    refine vf_of (a0) ?_; repeat (first | (simp only [go_sem, Nat.reduceEqDiff, Nat.reduceAdd, Nat.reduceSub, Nat.reduceMul, Nat.reduceLeDiff, Nat.reduceLT, reduceIte, reduceCtorEq, Nat.succ_ne_zero, elemsC, Int.reduceToNat, Nat.reducePow]) | (simp (disch := (first | omega | (simp only [AL, List.length_map]; omega))) only [AR, AL, ifT, ifF, take_all, List.length_cons, List.length_nil, Int.reduceToNat, Int.reducePow, Nat.reducePow]) | (refine wk_intro (by kernel_rfl) ?_))
    rfl
  · rw [show inD 3 n m a b = (decide (1 ≤ n) && decide (0 < a)) from rfl]
    by_cases hn : 1 ≤ n
    · rw [decide_eq_true hn, Bool.true_and]
      repeat (first | (simp only [go_sem, Nat.reduceEqDiff, Nat.reduceAdd, Nat.reduceSub, Nat.reduceMul, Nat.reduceLeDiff, Nat.reduceLT, reduceIte, reduceCtorEq, Nat.succ_ne_zero, elemsC, Int.reduceToNat, Nat.reducePow]) | (simp (disch := (first | omega | (simp only [AL, List.length_map]; omega))) only [AR, AL, ifT, ifF, take_all, List.length_cons, List.length_nil, Int.reduceToNat, Int.reducePow, Nat.reducePow]) | (refine wk_intro (by kernel_rfl) ?_) | (refine vf_of (by first | exact a0) ?_))
    · rw [decide_eq_false hn, Bool.false_and]
      repeat (first | (simp only [go_sem, Nat.reduceEqDiff, Nat.reduceAdd, Nat.reduceSub, Nat.reduceMul, Nat.reduceLeDiff, Nat.reduceLT, reduceIte, reduceCtorEq, Nat.succ_ne_zero, elemsC, Int.reduceToNat, Nat.reducePow]) | (simp (disch := (first | omega | (simp only [AL, List.length_map]; omega))) only [AR, AL, ifT, ifF, take_all, List.length_cons, List.length_nil, Int.reduceToNat, Int.reducePow, Nat.reducePow]) | (refine wk_intro (by kernel_rfl) ?_))
  · rw [show inD 4 n m a b = decide (1 ≤ n) from rfl]
    repeat (first | (simp only [go_sem, Nat.reduceEqDiff, Nat.reduceAdd, Nat.reduceSub, Nat.reduceMul, Nat.reduceLeDiff, Nat.reduceLT, reduceIte, reduceCtorEq, Nat.succ_ne_zero, elemsC, Int.reduceToNat, Nat.reducePow]) | (simp (disch := (first | omega | (simp only [AL, List.length_map]; omega))) only [AR, AL, ifT, ifF, take_all, List.length_cons, List.length_nil, Int.reduceToNat, Int.reducePow, Nat.reducePow]) | (refine wk_intro (by kernel_rfl) ?_))
  · rw [show inD 5 n m a b = decide (1 ≤ n) from rfl]
    repeat (first | (simp only [go_sem, Nat.reduceEqDiff, Nat.reduceAdd, Nat.reduceSub, Nat.reduceMul, Nat.reduceLeDiff, Nat.reduceLT, reduceIte, reduceCtorEq, Nat.succ_ne_zero, elemsC, Int.reduceToNat, Nat.reducePow]) | (simp (disch := (first | omega | (simp only [AL, List.length_map]; omega))) only [AR, AL, ifT, ifF, take_all, List.length_cons, List.length_nil, Int.reduceToNat, Int.reducePow, Nat.reducePow]) | (refine wk_intro (by kernel_rfl) ?_))
  · rw [show inD 6 n m a b = (decide (1 ≤ n) && decide (1 ≤ m)) from rfl]
    by_cases hn : 1 ≤ n
    · rw [decide_eq_true hn, Bool.true_and]
      repeat (first | (simp only [go_sem, Nat.reduceEqDiff, Nat.reduceAdd, Nat.reduceSub, Nat.reduceMul, Nat.reduceLeDiff, Nat.reduceLT, reduceIte, reduceCtorEq, Nat.succ_ne_zero, elemsC, Int.reduceToNat, Nat.reducePow]) | (simp (disch := (first | omega | (simp only [AL, List.length_map]; omega))) only [AR, AL, ifT, ifF, take_all, List.length_cons, List.length_nil, Int.reduceToNat, Int.reducePow, Nat.reducePow]) | (refine wk_intro (by kernel_rfl) ?_))
    · rw [decide_eq_false hn, Bool.false_and]
      repeat (first | (simp only [go_sem, Nat.reduceEqDiff, Nat.reduceAdd, Nat.reduceSub, Nat.reduceMul, Nat.reduceLeDiff, Nat.reduceLT, reduceIte, reduceCtorEq, Nat.succ_ne_zero, elemsC, Int.reduceToNat, Nat.reducePow]) | (simp (disch := (first | omega | (simp only [AL, List.length_map]; omega))) only [AR, AL, ifT, ifF, take_all, List.length_cons, List.length_nil, Int.reduceToNat, Int.reducePow, Nat.reducePow]) | (refine wk_intro (by kernel_rfl) ?_))
  · rw [show inD 7 n m a b = (decide (1 ≤ n) && decide (1 ≤ m)) from rfl]
    by_cases hn : 1 ≤ n
    · rw [decide_eq_true hn, Bool.true_and]
      repeat (first | (simp only [go_sem, Nat.reduceEqDiff, Nat.reduceAdd, Nat.reduceSub, Nat.reduceMul, Nat.reduceLeDiff, Nat.reduceLT, reduceIte, reduceCtorEq, Nat.succ_ne_zero, elemsC, Int.reduceToNat, Nat.reducePow]) | (simp (disch := (first | omega | (simp only [AL, List.length_map]; omega))) only [AR, AL, ifT, ifF, take_all, List.length_cons, List.length_nil, Int.reduceToNat, Int.reducePow, Nat.reducePow]) | (refine wk_intro (by kernel_rfl) ?_))
    · rw [decide_eq_false hn, Bool.false_and]
      repeat (first | (simp only [go_sem, Nat.reduceEqDiff, Nat.reduceAdd, Nat.reduceSub, Nat.reduceMul, Nat.reduceLeDiff, Nat.reduceLT, reduceIte, reduceCtorEq, Nat.succ_ne_zero, elemsC, Int.reduceToNat, Nat.reducePow]) | (simp (disch := (first | omega | (simp only [AL, List.length_map]; omega))) only [AR, AL, ifT, ifF, take_all, List.length_cons, List.length_nil, Int.reduceToNat, Int.reducePow, Nat.reducePow]) | (refine wk_intro (by kernel_rfl) ?_))
  · rw [show inD 8 n m a b = (decide (0 ≤ n) && (decide (0 ≤ a) && decide (a ≤ 1))) from rfl]
    by_cases hn : 0 ≤ n
    · rw [decide_eq_true hn, Bool.true_and]
      by_cases ha : a < 0
      · rw [decide_eq_true ha] at l0
        rw [decide_eq_false (show ¬ 0 ≤ a by grind), Bool.false_and]
        repeat (first | (simp only [go_sem, Nat.reduceEqDiff, Nat.reduceAdd, Nat.reduceSub, Nat.reduceMul, Nat.reduceLeDiff, Nat.reduceLT, reduceIte, reduceCtorEq, Nat.succ_ne_zero, elemsC, Int.reduceToNat, Nat.reducePow, Bool.not_true]) | (simp (disch := (first | omega | (simp only [AL, List.length_map]; omega))) only [AR, AL, ifT, ifF, take_all, List.length_cons, List.length_nil, Int.reduceToNat, Int.reducePow, Nat.reducePow, Bool.not_true]) | (refine wk_intro (by kernel_rfl) ?_) | (refine vf_of (by first | exact l0) ?_))
      · rw [decide_eq_false ha] at l0
        rw [decide_eq_true (show 0 ≤ a by grind), Bool.true_and]
        repeat (first | (simp only [go_sem, Nat.reduceEqDiff, Nat.reduceAdd, Nat.reduceSub, Nat.reduceMul, Nat.reduceLeDiff, Nat.reduceLT, reduceIte, reduceCtorEq, Nat.succ_ne_zero, elemsC, Int.reduceToNat, Nat.reducePow, Bool.not_false, not_lt_dec]) | (simp (disch := (first | omega | (simp only [AL, List.length_map]; omega))) only [AR, AL, ifT, ifF, take_all, List.length_cons, List.length_nil, Int.reduceToNat, Int.reducePow, Nat.reducePow, Bool.not_false, not_lt_dec]) | (refine wk_intro (by kernel_rfl) ?_) | (refine vf_of (by first | exact l0 | exact a1) ?_))
    · rw [decide_eq_false hn, Bool.false_and]
      repeat (first | (simp only [go_sem, Nat.reduceEqDiff, Nat.reduceAdd, Nat.reduceSub, Nat.reduceMul, Nat.reduceLeDiff, Nat.reduceLT, reduceIte, reduceCtorEq, Nat.succ_ne_zero, elemsC, Int.reduceToNat, Nat.reducePow]) | (simp (disch := (first | omega | (simp only [AL, List.length_map]; omega))) only [AR, AL, ifT, ifF, take_all, List.length_cons, List.length_nil, Int.reduceToNat, Int.reducePow, Nat.reducePow]) | (refine wk_intro (by kernel_rfl) ?_))
  · rw [show inD 9 n m a b = decide (0 ≤ a) from rfl]
    repeat (first | (simp only [go_sem, Nat.reduceEqDiff, Nat.reduceAdd, Nat.reduceSub, Nat.reduceMul, Nat.reduceLeDiff, Nat.reduceLT, reduceIte, reduceCtorEq, Nat.succ_ne_zero, elemsC, Int.reduceToNat, Nat.reducePow, not_lt_dec]) | (simp (disch := (first | omega | (simp only [AL, List.length_map]; omega))) only [AR, AL, ifT, ifF, take_all, List.length_cons, List.length_nil, Int.reduceToNat, Int.reducePow, Nat.reducePow, not_lt_dec]) | (refine wk_intro (by kernel_rfl) ?_) | (refine vf_of (by first | exact l0) ?_))
  · have e : inD k n m a b = false := by
      unfold inD
      rw [if_neg k1, if_neg k2, if_neg k3, if_neg k4, if_neg k5, if_neg k6, if_neg k7, if_neg k8, if_neg k9]
    rw [e]
    repeat (first | (simp only [go_sem, Nat.reduceEqDiff, Nat.reduceAdd, Nat.reduceSub, Nat.reduceMul, Nat.reduceLeDiff, Nat.reduceLT, reduceIte, reduceCtorEq, Nat.succ_ne_zero, elemsC, Int.reduceToNat, Nat.reducePow]) | (simp (disch := (first | omega | (simp only [AL, List.length_map]; omega))) only [AR, AL, ifT, ifF, take_all, List.length_cons, List.length_nil, Int.reduceToNat, Int.reducePow, Nat.reducePow]) | (refine wk_intro (by kernel_rfl) ?_))
theorem max_gt (n m : Int) : decide ((if m > n then m else n) > 256) = (decide (256 < n) || decide (256 < m)) := by
  rw [← Bool.decide_or]
  congr 1
  split <;> (apply propext; omega)
theorem dist_isGreat (hA : RatA (ratV sa na da) a L) (hL : 1 ≤ L) (h : L ≤ 1048576) : Go.Ev.Fn CX 162 [distV k n m sa na da sb nb db] (.bool (gtD k n m a)) := by
  have a64 := dist_above hA hL h 64 (by omega)
  rw [show ((64 : Int) : Rat) = 64 from rfl] at a64
  refine Go.Ev.Fn.intro (fn := Tryz.f162) (body := (Tryz.f162).body.get!) (by kernel_rfl) (by kernel_rfl) (by kernel_rfl) (fun _ => rfl) (Nat.le_of_ble_eq_true (by kernel_rfl)) ?_; unfold Tryz.f162; simp only [Option.get!_some]
  rcases kinds k with rfl | rfl | rfl | rfl | rfl | rfl | rfl | rfl | rfl | ⟨k1, k2, k3, k4, k5, k6, k7, k8, k9⟩
  · repeat (first | (simp only [go_sem, Nat.reduceEqDiff, Nat.reduceAdd, Nat.reduceSub, Nat.reduceMul, Nat.reduceLeDiff, Nat.reduceLT, reduceIte, reduceCtorEq, Nat.succ_ne_zero, elemsC, Int.reduceToNat, Nat.reducePow]) | (simp (disch := (first | omega | (simp only [AL, List.length_map]; omega))) only [AR, AL, ifT, ifF, take_all, List.length_cons, List.length_nil, Int.reduceToNat, Int.reducePow, Nat.reducePow]) | (refine wk_intro (by kernel_rfl) ?_))
    rfl
  · repeat (first | (simp only [go_sem, Nat.reduceEqDiff, Nat.reduceAdd, Nat.reduceSub, Nat.reduceMul, Nat.reduceLeDiff, Nat.reduceLT, reduceIte, reduceCtorEq, Nat.succ_ne_zero, elemsC, Int.reduceToNat, Nat.reducePow]) | (simp (disch := (first | omega | (simp only [AL, List.length_map]; omega))) only [AR, AL, ifT, ifF, take_all, List.length_cons, List.length_nil, Int.reduceToNat, Int.reducePow, Nat.reducePow]) | (refine wk_intro (by kernel_rfl) ?_))
    rfl
  · repeat (first | (simp only [go_sem, Nat.reduceEqDiff, Nat.reduceAdd, Nat.reduceSub, Nat.reduceMul, Nat.reduceLeDiff, Nat.reduceLT, reduceIte, reduceCtorEq, Nat.succ_ne_zero, elemsC, Int.reduceToNat, Nat.reducePow]) | (simp (disch := (first | omega | (simp only [AL, List.length_map]; omega))) only [AR, AL, ifT, ifF, take_all, List.length_cons, List.length_nil, Int.reduceToNat, Int.reducePow, Nat.reducePow]) | (refine wk_intro (by kernel_rfl) ?_))
    rfl
  · repeat (first | (simp only [go_sem, Nat.reduceEqDiff, Nat.reduceAdd, Nat.reduceSub, Nat.reduceMul, Nat.reduceLeDiff, Nat.reduceLT, reduceIte, reduceCtorEq, Nat.succ_ne_zero, elemsC, Int.reduceToNat, Nat.reducePow]) | (simp (disch := (first | omega | (simp only [AL, List.length_map]; omega))) only [AR, AL, ifT, ifF, take_all, List.length_cons, List.length_nil, Int.reduceToNat, Int.reducePow, Nat.reducePow]) | (refine wk_intro (by kernel_rfl) ?_))
    rfl
  · repeat (first | (simp only [go_sem, Nat.reduceEqDiff, Nat.reduceAdd, Nat.reduceSub, Nat.reduceMul, Nat.reduceLeDiff, Nat.reduceLT, reduceIte, reduceCtorEq, Nat.succ_ne_zero, elemsC, Int.reduceToNat, Nat.reducePow]) | (simp (disch := (first | omega | (simp only [AL, List.length_map]; omega))) only [AR, AL, ifT, ifF, take_all, List.length_cons, List.length_nil, Int.reduceToNat, Int.reducePow, Nat.reducePow]) | (refine wk_intro (by kernel_rfl) ?_))
    rfl
  · repeat (first | (simp only [go_sem, Nat.reduceEqDiff, Nat.reduceAdd, Nat.reduceSub, Nat.reduceMul, Nat.reduceLeDiff, Nat.reduceLT, reduceIte, reduceCtorEq, Nat.succ_ne_zero, elemsC, Int.reduceToNat, Nat.reducePow, max_gt]) | (simp (disch := (first | omega | (simp only [AL, List.length_map]; omega))) only [AR, AL, ifT, ifF, take_all, List.length_cons, List.length_nil, Int.reduceToNat, Int.reducePow, Nat.reducePow, max_gt]) | (refine wk_intro (by kernel_rfl) ?_))
    rfl
  · repeat (first | (simp only [go_sem, Nat.reduceEqDiff, Nat.reduceAdd, Nat.reduceSub, Nat.reduceMul, Nat.reduceLeDiff, Nat.reduceLT, reduceIte, reduceCtorEq, Nat.succ_ne_zero, elemsC, Int.reduceToNat, Nat.reducePow, max_gt]) | (simp (disch := (first | omega | (simp only [AL, List.length_map]; omega))) only [AR, AL, ifT, ifF, take_all, List.length_cons, List.length_nil, Int.reduceToNat, Int.reducePow, Nat.reducePow, max_gt]) | (refine wk_intro (by kernel_rfl) ?_))
    rfl
  · repeat (first | (simp only [go_sem, Nat.reduceEqDiff, Nat.reduceAdd, Nat.reduceSub, Nat.reduceMul, Nat.reduceLeDiff, Nat.reduceLT, reduceIte, reduceCtorEq, Nat.succ_ne_zero, elemsC, Int.reduceToNat, Nat.reducePow]) | (simp (disch := (first | omega | (simp only [AL, List.length_map]; omega))) only [AR, AL, ifT, ifF, take_all, List.length_cons, List.length_nil, Int.reduceToNat, Int.reducePow, Nat.reducePow]) | (refine wk_intro (by kernel_rfl) ?_))
    rfl
  · repeat (first | (simp only [go_sem, Nat.reduceEqDiff, Nat.reduceAdd, Nat.reduceSub, Nat.reduceMul, Nat.reduceLeDiff, Nat.reduceLT, reduceIte, reduceCtorEq, Nat.succ_ne_zero, elemsC, Int.reduceToNat, Nat.reducePow]) | (simp (disch := (first | omega | (simp only [AL, List.length_map]; omega))) only [AR, AL, ifT, ifF, take_all, List.length_cons, List.length_nil, Int.reduceToNat, Int.reducePow, Nat.reducePow]) | (refine wk_intro (by kernel_rfl) ?_))
    refine vf_of (a64) ?_; repeat (first | (simp only [go_sem, Nat.reduceEqDiff, Nat.reduceAdd, Nat.reduceSub, Nat.reduceMul, Nat.reduceLeDiff, Nat.reduceLT, reduceIte, reduceCtorEq, Nat.succ_ne_zero, elemsC, Int.reduceToNat, Nat.reducePow]) | (simp (disch := (first | omega | (simp only [AL, List.length_map]; omega))) only [AR, AL, ifT, ifF, take_all, List.length_cons, List.length_nil, Int.reduceToNat, Int.reducePow, Nat.reducePow]) | (refine wk_intro (by kernel_rfl) ?_))
    rfl
  · have e : gtD k n m a = false := by
      unfold gtD
      rw [if_neg k3, if_neg k4, if_neg k5, if_neg k6, if_neg k7, if_neg k8, if_neg k9]
    rw [e]
    repeat (first | (simp only [go_sem, Nat.reduceEqDiff, Nat.reduceAdd, Nat.reduceSub, Nat.reduceMul, Nat.reduceLeDiff, Nat.reduceLT, reduceIte, reduceCtorEq, Nat.succ_ne_zero, elemsC, Int.reduceToNat, Nat.reducePow]) | (simp (disch := (first | omega | (simp only [AL, List.length_map]; omega))) only [AR, AL, ifT, ifF, take_all, List.length_cons, List.length_nil, Int.reduceToNat, Int.reducePow, Nat.reducePow]) | (refine wk_intro (by kernel_rfl) ?_))
theorem dist_Check (hA : RatA (ratV sa na da) a L) (hB : RatA (ratV sb nb db) b L) (hL : 1 ≤ L) (h : L ≤ 1048576) : Go.Ev.Fn CX 110 [distV k n m sa na da sb nb db] (.int .i64 (chkD k n m a b)) := by
  have h1 := dist_isDomain (k := k) (n := n) (m := m) hA hB hL h
  have h2 := dist_isGreat (k := k) (n := n) (m := m) (sb := sb) (nb := nb) (db := db) hA hL h
  unfold chkD
  refine Go.Ev.Fn.intro (fn := Tryz.f110) (body := (Tryz.f110).body.get!) (by kernel_rfl) (by kernel_rfl) (by kernel_rfl) (fun _ => rfl) (Nat.le_of_ble_eq_true (by kernel_rfl)) ?_; unfold Tryz.f110; simp only [Option.get!_some]
  generalize inD k n m a b = i at *
  generalize gtD k n m a = g at *
  cases i
  · repeat (first | (simp only [go_sem, Nat.reduceEqDiff, Nat.reduceAdd, Nat.reduceSub, Nat.reduceMul, Nat.reduceLeDiff, Nat.reduceLT, reduceIte, reduceCtorEq, Nat.succ_ne_zero, elemsC, Int.reduceToNat, Nat.reducePow]) | (simp (disch := (first | omega | (simp only [AL, List.length_map]; omega))) only [AR, AL, ifT, ifF, take_all, List.length_cons, List.length_nil, Int.reduceToNat, Int.reducePow, Nat.reducePow]) | (refine wk_intro (by kernel_rfl) ?_))
    refine vf_of (h1) ?_; repeat (first | (simp only [go_sem, Nat.reduceEqDiff, Nat.reduceAdd, Nat.reduceSub, Nat.reduceMul, Nat.reduceLeDiff, Nat.reduceLT, reduceIte, reduceCtorEq, Nat.succ_ne_zero, elemsC, Int.reduceToNat, Nat.reducePow, Bool.not_false]) | (simp (disch := (first | omega | (simp only [AL, List.length_map]; omega))) only [AR, AL, ifT, ifF, take_all, List.length_cons, List.length_nil, Int.reduceToNat, Int.reducePow, Nat.reducePow, Bool.not_false]) | (refine wk_intro (by kernel_rfl) ?_))
  · cases g
    · repeat (first | (simp only [go_sem, Nat.reduceEqDiff, Nat.reduceAdd, Nat.reduceSub, Nat.reduceMul, Nat.reduceLeDiff, Nat.reduceLT, reduceIte, reduceCtorEq, Nat.succ_ne_zero, elemsC, Int.reduceToNat, Nat.reducePow]) | (simp (disch := (first | omega | (simp only [AL, List.length_map]; omega))) only [AR, AL, ifT, ifF, take_all, List.length_cons, List.length_nil, Int.reduceToNat, Int.reducePow, Nat.reducePow]) | (refine wk_intro (by kernel_rfl) ?_))
      repeat (first | (simp only [go_sem, Nat.reduceEqDiff, Nat.reduceAdd, Nat.reduceSub, Nat.reduceMul, Nat.reduceLeDiff, Nat.reduceLT, reduceIte, reduceCtorEq, Nat.succ_ne_zero, elemsC, Int.reduceToNat, Nat.reducePow, Bool.not_true]) | (simp (disch := (first | omega | (simp only [AL, List.length_map]; omega))) only [AR, AL, ifT, ifF, take_all, List.length_cons, List.length_nil, Int.reduceToNat, Int.reducePow, Nat.reducePow, Bool.not_true]) | (refine wk_intro (by kernel_rfl) ?_) | (refine vf_of (by first | exact h1 | exact h2) ?_))
    · repeat (first | (simp only [go_sem, Nat.reduceEqDiff, Nat.reduceAdd, Nat.reduceSub, Nat.reduceMul, Nat.reduceLeDiff, Nat.reduceLT, reduceIte, reduceCtorEq, Nat.succ_ne_zero, elemsC, Int.reduceToNat, Nat.reducePow]) | (simp (disch := (first | omega | (simp only [AL, List.length_map]; omega))) only [AR, AL, ifT, ifF, take_all, List.length_cons, List.length_nil, Int.reduceToNat, Int.reducePow, Nat.reducePow]) | (refine wk_intro (by kernel_rfl) ?_))
      repeat (first | (simp only [go_sem, Nat.reduceEqDiff, Nat.reduceAdd, Nat.reduceSub, Nat.reduceMul, Nat.reduceLeDiff, Nat.reduceLT, reduceIte, reduceCtorEq, Nat.succ_ne_zero, elemsC, Int.reduceToNat, Nat.reducePow, Bool.not_true]) | (simp (disch := (first | omega | (simp only [AL, List.length_map]; omega))) only [AR, AL, ifT, ifF, take_all, List.length_cons, List.length_nil, Int.reduceToNat, Int.reducePow, Nat.reducePow, Bool.not_true]) | (refine wk_intro (by kernel_rfl) ?_) | (refine vf_of (by first | exact h1 | exact h2) ?_))
/-- Does a distribution count? -/
def cntD (k n m : Int) (a b : Rat) : Bool := (k == 8 || k == 9) && (chkD k n m a b == 0)
end
end Go.Proofs.YtemnjalaincijaaGreat

/- A distribution's mean: dist.Mean and vernierref14.Mean, in the evaluator. -/
namespace Go.Proofs.YtemnjalaincijaaGreat
set_option linter.unusedSimpArgs false
set_option linter.unusedVariables false
set_option maxRecDepth 8000
open Go.Ev
section
variable {k n m : Int} {sa sb : Bool} {na da nb db : List Nat} {a b : Rat} {L : Nat}
theorem dist_over {v w : SV} {q r : Rat} {L M : Nat} (hv : RatA v q L) (hw : RatA w r M) (hL : 1 ≤ L) (hM : 1 ≤ M) (h : L + M ≤ 268435456) : Go.Ev.Fn CX 163 [v, w] (rv (q / r)) := by
  have hd := rat_Div hv hw hL hM h
  obtain ⟨s, x, d, rfl, -⟩ := hv
  obtain ⟨s', x', d', rfl, -⟩ := hw
  refine Go.Ev.Fn.intro (fn := Tryz.f163) (body := (Tryz.f163).body.get!) (by kernel_rfl) (by kernel_rfl) (by kernel_rfl) (fun _ => rfl) (Nat.le_of_ble_eq_true (by kernel_rfl)) ?_; unfold Tryz.f163; simp only [Option.get!_some]
  repeat (first | (simp only [go_sem, Nat.reduceEqDiff, Nat.reduceAdd, Nat.reduceSub, Nat.reduceMul, Nat.reduceLeDiff, Nat.reduceLT, reduceIte, reduceCtorEq, Nat.succ_ne_zero, elemsC, Int.reduceToNat, Nat.reducePow]) | (simp (disch := (first | omega | (simp only [AL, List.length_map]; omega))) only [AR, AL, ifT, ifF, take_all, List.length_cons, List.length_nil, Int.reduceToNat, Int.reducePow, Nat.reducePow]) | (refine wk_intro (by kernel_rfl) ?_) | (refine vf_of (by first | exact hd) ?_))
theorem dist_part (n d : Int) (hn : -9223372036854775808 ≤ n ∧ n < 9223372036854775808) (hd : -9223372036854775808 ≤ d ∧ d < 9223372036854775808) : Go.Ev.Fn CX 171 [.int .i64 n, .int .i64 d] (rv ((n : Rat) / (d : Rat))) := by
  have h1 := rat_Int n hn
  have h2 := rat_Int d hd
  have ho := dist_over (RatA_rv (int_szR (n := n) (by omega))) (RatA_rv (int_szR (n := d) (by omega))) (by omega) (by omega) (by omega)
  refine Go.Ev.Fn.intro (fn := Tryz.f171) (body := (Tryz.f171).body.get!) (by kernel_rfl) (by kernel_rfl) (by kernel_rfl) (fun _ => rfl) (Nat.le_of_ble_eq_true (by kernel_rfl)) ?_; unfold Tryz.f171; simp only [Option.get!_some]
  repeat (first | (simp only [go_sem, Nat.reduceEqDiff, Nat.reduceAdd, Nat.reduceSub, Nat.reduceMul, Nat.reduceLeDiff, Nat.reduceLT, reduceIte, reduceCtorEq, Nat.succ_ne_zero, elemsC, Int.reduceToNat, Nat.reducePow]) | (simp (disch := (first | omega | (simp only [AL, List.length_map]; omega))) only [AR, AL, ifT, ifF, take_all, List.length_cons, List.length_nil, Int.reduceToNat, Int.reducePow, Nat.reducePow]) | (refine wk_intro (by kernel_rfl) ?_) | (refine vf_of (by first | exact h1 | exact h2 | exact ho) ?_))
theorem chk_zero (h : chkD k n m a b = 0) : inD k n m a b = true ∧ gtD k n m a = false := by
  unfold chkD at h
  cases hi : inD k n m a b <;> cases hg : gtD k n m a <;> rw [hi, hg] at h <;> simp_all
theorem int_RatA {n : Int} (h : -9223372036854775808 ≤ n ∧ n ≤ 9223372036854775808) : RatA (rv (n : Rat)) (n : Rat) 2 := RatA_rv (int_szR h)
/-- A pair of a number and whether it is there. -/
abbrev pairV (q : Rat) (ok : Bool) : SV := .tup [rv q, .bool ok]
end
end Go.Proofs.YtemnjalaincijaaGreat

/- vernierref2.Is; vernierref4: Of, Is, Width, Bit, Hold, Side, Good, Same, in the evaluator. -/
namespace Go.Proofs.YtemnjalaincijaaGreat
set_option linter.unusedSimpArgs false
set_option linter.unusedVariables false
set_option maxRecDepth 8000
open Go.Ev
theorem beq_true_self (b : Bool) : (b == b) = true := by cases b <;> rfl
theorem ref2_Is {q : Rat} {L : Nat} (hq : szR q L) (hL : L ≤ 1000000) : Go.Ev.Fn CX 136 [rv q] (.bool true) := by
  have n1 := ref2_Norm (RatA_rv hq) (by omega)
  have l1 := ref2_limbs (lim q.num.natAbs) (lim q.num.natAbs) (by have := hq.1; omega) (by have := hq.1; omega)
  have l2 := ref2_limbs (lim q.den) (lim q.den) (by have := hq.2; omega) (by have := hq.2; omega)
  rw [decide_eq_true rfl] at l1 l2
  have hb := beq_true_self (decide (q.num < 0))
  refine Go.Ev.Fn.intro (fn := Tryz.f136) (body := (Tryz.f136).body.get!) (by kernel_rfl) (by kernel_rfl) (by kernel_rfl) (fun _ => rfl) (Nat.le_of_ble_eq_true (by kernel_rfl)) ?_; unfold Tryz.f136; simp only [Option.get!_some]
  repeat (first | (simp only [go_sem, Nat.reduceEqDiff, Nat.reduceAdd, Nat.reduceSub, Nat.reduceMul, Nat.reduceLeDiff, Nat.reduceLT, reduceIte, reduceCtorEq, Nat.succ_ne_zero, elemsC, Int.reduceToNat, Nat.reducePow, hb]) | (simp (disch := (first | omega | (simp only [AL, List.length_map]; omega))) only [AR, AL, ifT, ifF, take_all, List.length_cons, List.length_nil, Int.reduceToNat, Int.reducePow, Nat.reducePow, hb]) | (refine wk_intro (by kernel_rfl) ?_) | (refine vf_of (by first | exact n1 | exact l1 | exact l2) ?_))
theorem ref4_Of {v : SV} {q : Rat} {L : Nat} (hv : RatA v q L) (hL : L ≤ 1000000) : Go.Ev.Fn CX 22 [v] (ballR q q) := by
  have n1 := ref2_Norm hv (by omega)
  obtain ⟨s, n, d, rfl, -⟩ := hv
  refine Go.Ev.Fn.intro (fn := Tryz.f22) (body := (Tryz.f22).body.get!) (by kernel_rfl) (by kernel_rfl) (by kernel_rfl) (fun _ => rfl) (Nat.le_of_ble_eq_true (by kernel_rfl)) ?_; unfold Tryz.f22; simp only [Option.get!_some]
  repeat (first | (simp only [go_sem, Nat.reduceEqDiff, Nat.reduceAdd, Nat.reduceSub, Nat.reduceMul, Nat.reduceLeDiff, Nat.reduceLT, reduceIte, reduceCtorEq, Nat.succ_ne_zero, elemsC, Int.reduceToNat, Nat.reducePow]) | (simp (disch := (first | omega | (simp only [AL, List.length_map]; omega))) only [AR, AL, ifT, ifF, take_all, List.length_cons, List.length_nil, Int.reduceToNat, Int.reducePow, Nat.reducePow]) | (refine wk_intro (by kernel_rfl) ?_) | (refine vp_draw (id := 1) (l := []) (by kernel_rfl) ?_) | (refine vf_of (by first | exact n1) ?_))
section
variable {a b c d : Rat} {L M : Nat}
theorem ref4_Is (ha : szR a L) (hb : szR b L) (hL1 : 1 ≤ L) (hL : L ≤ 100000) (h : a ≤ b) : Go.Ev.Fn CX 74 [ballR a b] (.bool true) := by
  have i1 := ref2_Is ha (by omega)
  have i2 := ref2_Is hb (by omega)
  have c1 := ref2_Cmp (RatA_rv ha) (RatA_rv hb) hL1 hL1 (by omega)
  have e1 : decide (cmpR a b ≤ 0) = true := by rw [cmpR_le]; exact decide_eq_true h
  generalize cmpR a b = z at *
  refine Go.Ev.Fn.intro (fn := Tryz.f74) (body := (Tryz.f74).body.get!) (by kernel_rfl) (by kernel_rfl) (by kernel_rfl) (fun _ => rfl) (Nat.le_of_ble_eq_true (by kernel_rfl)) ?_; unfold Tryz.f74; simp only [Option.get!_some]
  repeat (first | (simp only [go_sem, Nat.reduceEqDiff, Nat.reduceAdd, Nat.reduceSub, Nat.reduceMul, Nat.reduceLeDiff, Nat.reduceLT, reduceIte, reduceCtorEq, Nat.succ_ne_zero, elemsC, Int.reduceToNat, Nat.reducePow, e1]) | (simp (disch := (first | omega | (simp only [AL, List.length_map]; omega))) only [AR, AL, ifT, ifF, take_all, List.length_cons, List.length_nil, Int.reduceToNat, Int.reducePow, Nat.reducePow, e1]) | (refine wk_intro (by kernel_rfl) ?_) | (refine vf_of (by first | exact i1 | exact i2 | exact c1) ?_))
theorem ref4_Width (ha : szR a L) (hb : szR b L) (hL1 : 1 ≤ L) (hL : L ≤ 100000) : Go.Ev.Fn CX 75 [ballR a b] (rv (b - a)) := by
  have s := ref2_Sub (RatA_rv hb) (RatA_rv ha) hL1 hL1 (by omega)
  refine Go.Ev.Fn.intro (fn := Tryz.f75) (body := (Tryz.f75).body.get!) (by kernel_rfl) (by kernel_rfl) (by kernel_rfl) (fun _ => rfl) (Nat.le_of_ble_eq_true (by kernel_rfl)) ?_; unfold Tryz.f75; simp only [Option.get!_some]
  repeat (first | (simp only [go_sem, Nat.reduceEqDiff, Nat.reduceAdd, Nat.reduceSub, Nat.reduceMul, Nat.reduceLeDiff, Nat.reduceLT, reduceIte, reduceCtorEq, Nat.succ_ne_zero, elemsC, Int.reduceToNat, Nat.reducePow]) | (simp (disch := (first | omega | (simp only [AL, List.length_map]; omega))) only [AR, AL, ifT, ifF, take_all, List.length_cons, List.length_nil, Int.reduceToNat, Int.reducePow, Nat.reducePow]) | (refine wk_intro (by kernel_rfl) ?_) | (refine vf_of (by first | exact s) ?_))
theorem ref4_Bit {p : Nat} (hp : p ≤ 512) : Go.Ev.Fn CX 76 [.int .i64 (p : Int)] (rv (mkRat 1 (2 ^ p))) := by
  have s := ref1_shl (N := 1) (m := p) (by rw [lim_one]; simp) (by omega)
  rw [Nat.one_mul, lim_one] at s
  have l := lim_len_shl (a := 1) (n := p)
  have l1 := lim_len1
  rw [Nat.one_mul] at l
  have o := ref2_OfL (s := false) (n := 1) (d := 2 ^ p) (by omega) (by omega)
  rw [lim_one, show sgn false 1 = 1 from rfl] at o
  generalize mkRat 1 (2 ^ p) = r at *
  generalize 2 ^ p = P at *
  refine Go.Ev.Fn.intro (fn := Tryz.f76) (body := (Tryz.f76).body.get!) (by kernel_rfl) (by kernel_rfl) (by kernel_rfl) (fun _ => rfl) (Nat.le_of_ble_eq_true (by kernel_rfl)) ?_; unfold Tryz.f76; simp only [Option.get!_some]
  repeat (first | (simp only [go_sem, Nat.reduceEqDiff, Nat.reduceAdd, Nat.reduceSub, Nat.reduceMul, Nat.reduceLeDiff, Nat.reduceLT, reduceIte, reduceCtorEq, Nat.succ_ne_zero, elemsC, Int.reduceToNat, Nat.reducePow]) | (simp (disch := (first | omega | (simp only [AL, List.length_map]; omega))) only [AR, AL, ifT, ifF, take_all, List.length_cons, List.length_nil, Int.reduceToNat, Int.reducePow, Nat.reducePow]) | (refine wk_intro (by kernel_rfl) ?_) | (refine vf_of (by first | exact s | exact o) ?_))
theorem ref4_Hold {p : Int} {P : Nat} (h : (p ≤ 0 ∧ P = 0) ∨ p = (P : Int)) (hP : P ≤ 512) : Go.Ev.Fn CX 77 [.int .i64 p] (.int .i64 (P : Int)) := by
  have e1 : (if (0 : Int) > p then (0 : Int) else p) = (P : Int) := by split <;> omega
  have e2 : (if (512 : Int) < (P : Int) then (512 : Int) else (P : Int)) = (P : Int) := if_neg (by omega)
  refine Go.Ev.Fn.intro (fn := Tryz.f77) (body := (Tryz.f77).body.get!) (by kernel_rfl) (by kernel_rfl) (by kernel_rfl) (fun _ => rfl) (Nat.le_of_ble_eq_true (by kernel_rfl)) ?_; unfold Tryz.f77; simp only [Option.get!_some]
  repeat (first | (simp only [go_sem, Nat.reduceEqDiff, Nat.reduceAdd, Nat.reduceSub, Nat.reduceMul, Nat.reduceLeDiff, Nat.reduceLT, reduceIte, reduceCtorEq, Nat.succ_ne_zero, elemsC, Int.reduceToNat, Nat.reducePow, e1, e2]) | (simp (disch := (first | omega | (simp only [AL, List.length_map]; omega))) only [AR, AL, ifT, ifF, take_all, List.length_cons, List.length_nil, Int.reduceToNat, Int.reducePow, Nat.reducePow, e1, e2]) | (refine wk_intro (by kernel_rfl) ?_))
theorem ref4_Side0 (ha : szR a L) (hb : szR b L) (hc : szR c M) (hd : szR d M) (hL1 : 1 ≤ L) (hM1 : 1 ≤ M) (hL : L + M ≤ 100000) (h1 : c ≤ b) (h2 : a ≤ d) : Go.Ev.Fn CX 19 [ballR a b, ballR c d] (.int .i64 0) := by
  have c1 := ref2_Cmp (RatA_rv hb) (RatA_rv hc) hL1 hM1 (by omega)
  have c2 := ref2_Cmp (RatA_rv ha) (RatA_rv hd) hL1 hM1 (by omega)
  have e1 : decide (cmpR b c < 0) = false := by rw [cmpR_lt]; exact decide_eq_false (by grind)
  have e2 : decide (cmpR a d > 0) = false := by rw [cmpR_gt]; exact decide_eq_false (by grind)
  generalize cmpR b c = z1 at *
  generalize cmpR a d = z2 at *
  refine Go.Ev.Fn.intro (fn := Tryz.f19) (body := (Tryz.f19).body.get!) (by kernel_rfl) (by kernel_rfl) (by kernel_rfl) (fun _ => rfl) (Nat.le_of_ble_eq_true (by kernel_rfl)) ?_; unfold Tryz.f19; simp only [Option.get!_some]
  repeat (first | (simp only [go_sem, Nat.reduceEqDiff, Nat.reduceAdd, Nat.reduceSub, Nat.reduceMul, Nat.reduceLeDiff, Nat.reduceLT, reduceIte, reduceCtorEq, Nat.succ_ne_zero, elemsC, Int.reduceToNat, Nat.reducePow, e1, e2]) | (simp (disch := (first | omega | (simp only [AL, List.length_map]; omega))) only [AR, AL, ifT, ifF, take_all, List.length_cons, List.length_nil, Int.reduceToNat, Int.reducePow, Nat.reducePow, e1, e2]) | (refine wk_intro (by kernel_rfl) ?_) | (refine vf_of (by first | exact c1 | exact c2) ?_))
/-- A ball that is narrow, and meets another one, is good. -/
theorem ref4_Good {p : Int} {P : Nat} (hp : (p ≤ 0 ∧ P = 0) ∨ p = (P : Int)) (hP : P ≤ 512) (ha : szR a L) (hb : szR b L) (hc : szR c M) (hd : szR d M) (hL1 : 1 ≤ L) (hM1 : 1 ≤ M) (hL : L + M ≤ 100000) (h0 : a ≤ b) (h1 : c ≤ b) (h2 : a ≤ d) (hw : (b - a) * p2 P ≤ 1) :
    Go.Ev.Fn CX 25 [ballR a b, ballR c d, .int .i64 p] (.bool true) := by
  have i := ref4_Is ha hb hL1 (by omega) h0
  have w := ref4_Width ha hb hL1 (by omega)
  have hh := ref4_Hold hp hP
  have bt := ref4_Bit hP
  have l := lim_len_shl (a := 1) (n := P)
  have l1 := lim_len1
  rw [Nat.one_mul] at l
  have zb : szR (mkRat 1 (2 ^ P)) 20 := szR_mk (s := false) (n := 1) (d := 2 ^ P) (by omega) (by omega) (by omega)
  have zw := szR_sub hb ha hL1
  have c1 := ref2_Cmp (RatA_rv zw) (RatA_rv zb) (by omega) (by omega) (by omega)
  have e0 : b - a ≤ mkRat 1 (2 ^ P) := by
    refine le_by (p2_pos P) ?_
    have : mkRat 1 (2 ^ P) * p2 P = 1 := by
      rw [Rat.mkRat_eq_div]
      exact Rat.div_mul_cancel (by have : (0 : Rat) < p2 P := p2_pos P; grind)
    rw [this]; exact hw
  have e1 : decide (cmpR (b - a) (mkRat 1 (2 ^ P)) ≤ 0) = true := by rw [cmpR_le]; exact decide_eq_true e0
  have sd := ref4_Side0 ha hb hc hd hL1 hM1 (by omega) h1 h2
  generalize cmpR (b - a) (mkRat 1 (2 ^ P)) = z at *
  generalize mkRat 1 (2 ^ P) = r at *
  generalize b - a = x at *
  refine Go.Ev.Fn.intro (fn := Tryz.f25) (body := (Tryz.f25).body.get!) (by kernel_rfl) (by kernel_rfl) (by kernel_rfl) (fun _ => rfl) (Nat.le_of_ble_eq_true (by kernel_rfl)) ?_; unfold Tryz.f25; simp only [Option.get!_some]
  repeat (first | (simp only [go_sem, Nat.reduceEqDiff, Nat.reduceAdd, Nat.reduceSub, Nat.reduceMul, Nat.reduceLeDiff, Nat.reduceLT, reduceIte, reduceCtorEq, Nat.succ_ne_zero, elemsC, Int.reduceToNat, Nat.reducePow, e1]) | (simp (disch := (first | omega | (simp only [AL, List.length_map]; omega))) only [AR, AL, ifT, ifF, take_all, List.length_cons, List.length_nil, Int.reduceToNat, Int.reducePow, Nat.reducePow, e1]) | (refine wk_intro (by kernel_rfl) ?_) | (refine vf_of (by first | exact i | exact w | exact hh | exact bt | exact c1 | exact sd) ?_))
theorem ref4_Same (ha : szR a L) (hb : szR b L) (hL1 : 1 ≤ L) (hL : L ≤ 100000) : Go.Ev.Fn CX 24 [ballR a b, ballR a b] (.bool true) := by
  have s1 := ref2_Same (RatA_rv ha) (RatA_rv ha) hL1 hL1 (by omega)
  have s2 := ref2_Same (RatA_rv hb) (RatA_rv hb) hL1 hL1 (by omega)
  rw [decide_eq_true rfl] at s1 s2
  refine Go.Ev.Fn.intro (fn := Tryz.f24) (body := (Tryz.f24).body.get!) (by kernel_rfl) (by kernel_rfl) (by kernel_rfl) (fun _ => rfl) (Nat.le_of_ble_eq_true (by kernel_rfl)) ?_; unfold Tryz.f24; simp only [Option.get!_some]
  repeat (first | (simp only [go_sem, Nat.reduceEqDiff, Nat.reduceAdd, Nat.reduceSub, Nat.reduceMul, Nat.reduceLeDiff, Nat.reduceLT, reduceIte, reduceCtorEq, Nat.succ_ne_zero, elemsC, Int.reduceToNat, Nat.reducePow]) | (simp (disch := (first | omega | (simp only [AL, List.length_map]; omega))) only [AR, AL, ifT, ifF, take_all, List.length_cons, List.length_nil, Int.reduceToNat, Int.reducePow, Nat.reducePow]) | (refine wk_intro (by kernel_rfl) ?_) | (refine vf_of (by first | exact s1 | exact s2) ?_))
end
end Go.Proofs.YtemnjalaincijaaGreat

/- dist: one, Cdf of Normal and Exponent; vernierlaw14.DistScales, in the evaluator. -/
namespace Go.Proofs.YtemnjalaincijaaGreat
set_option linter.unusedSimpArgs false
set_option linter.unusedVariables false
set_option maxRecDepth 8000
open Go.Ev
set_option linter.unusedVariables false
theorem distE_one : Go.Ev.Fn CX 113 [] (ballR 1 1) := by
  have i1 := rat_Int 1 (by omega)
  have o := ball_Of (RatA_rv (int_szR (n := 1) (by omega))) (by omega)
  rw [show ((1 : Int) : Rat) = 1 from rfl] at i1 o
  refine Go.Ev.Fn.intro (fn := Tryz.f113) (body := (Tryz.f113).body.get!) (by kernel_rfl) (by kernel_rfl) (by kernel_rfl) (fun _ => rfl) (Nat.le_of_ble_eq_true (by kernel_rfl)) ?_; unfold Tryz.f113; simp only [Option.get!_some]
  repeat (first | (simp only [go_sem, Nat.reduceEqDiff, Nat.reduceAdd, Nat.reduceSub, Nat.reduceMul, Nat.reduceLeDiff, Nat.reduceLT, reduceIte, reduceCtorEq, Nat.succ_ne_zero, elemsC, Int.reduceToNat, Nat.reducePow]) | (simp (disch := (first | omega | (simp only [AL, List.length_map]; omega))) only [AR, AL, ifT, ifF, take_all, List.length_cons, List.length_nil, Int.reduceToNat, Int.reducePow, Nat.reducePow]) | (refine wk_intro (by kernel_rfl) ?_) | (refine vf_of (by first | exact i1 | exact o) ?_))
/-- No ball. -/
abbrev noB : SV := .agg [.bool false, .sl 0 [], .sl 0 [], .bool false, .sl 0 [], .sl 0 []]
/-- What is told of a chance: a ball, or that it is outside. -/
def cdfV (ok : Bool) (l h : Rat) : SV := if ok then .tup [ballR l h, .int .i64 0] else .tup [noB, .int .i64 7]
section
variable {v : SV} {x l h : Rat} {L P : Nat} {p : Int} {ok : Bool}
theorem distE_Cdf {k n m : Int} {sa sb : Bool} {na da nb db : List Nat} {a b : Rat} {M : Nat} (hA : RatA (ratV sa na da) a M) (hB : RatA (ratV sb nb db) b M) (hM : 1 ≤ M) (hM2 : M ≤ 1000) (hc : chkD k n m a b = 0) (hx : RatA v x L) (hp : P ≤ 200)
    (f : Go.Ev.Fn CX 111 [distV k n m sa na da sb nb db, v, .int .i64 (P : Int)] (.tup [ballR l h, .bool ok])) :
    Go.Ev.Fn CX 49 [distV k n m sa na da sb nb db, v, .int .i64 (P : Int)] (cdfV ok l h) := by
  have c := dist_Check (k := k) (n := n) (m := m) hA hB hM (by omega)
  rw [hc] at c
  have x1 : (if (0 : Int) > (P : Int) then (0 : Int) else (P : Int)) = (P : Int) := if_neg (by omega)
  have x2 : (if (200 : Int) < (P : Int) then (200 : Int) else (P : Int)) = (P : Int) := if_neg (by omega)
  clear hA hB
  obtain ⟨s, nn, dd, rfl, -⟩ := hx
  cases ok with
  | true =>
    show Go.Ev.Fn CX _ _ (.tup [ballR l h, .int .i64 0])
    refine Go.Ev.Fn.intro (fn := Tryz.f49) (body := (Tryz.f49).body.get!) (by kernel_rfl) (by kernel_rfl) (by kernel_rfl) (fun _ => rfl) (Nat.le_of_ble_eq_true (by kernel_rfl)) ?_; unfold Tryz.f49; simp only [Option.get!_some]
    repeat (first | (simp only [go_sem, Nat.reduceEqDiff, Nat.reduceAdd, Nat.reduceSub, Nat.reduceMul, Nat.reduceLeDiff, Nat.reduceLT, reduceIte, reduceCtorEq, Nat.succ_ne_zero, elemsC, Int.reduceToNat, Nat.reducePow, x1, x2, Bool.not_true]) | (simp (disch := (first | omega | (simp only [AL, List.length_map]; omega))) only [AR, AL, ifT, ifF, take_all, List.length_cons, List.length_nil, Int.reduceToNat, Int.reducePow, Nat.reducePow, x1, x2, Bool.not_true]) | (refine wk_intro (by kernel_rfl) ?_) | (refine vf_of (by first | exact c | exact f) ?_))
  | false =>
    show Go.Ev.Fn CX _ _ (.tup [noB, .int .i64 7])
    refine Go.Ev.Fn.intro (fn := Tryz.f49) (body := (Tryz.f49).body.get!) (by kernel_rfl) (by kernel_rfl) (by kernel_rfl) (fun _ => rfl) (Nat.le_of_ble_eq_true (by kernel_rfl)) ?_; unfold Tryz.f49; simp only [Option.get!_some]
    repeat (first | (simp only [go_sem, Nat.reduceEqDiff, Nat.reduceAdd, Nat.reduceSub, Nat.reduceMul, Nat.reduceLeDiff, Nat.reduceLT, reduceIte, reduceCtorEq, Nat.succ_ne_zero, elemsC, Int.reduceToNat, Nat.reducePow, x1, x2, Bool.not_false]) | (simp (disch := (first | omega | (simp only [AL, List.length_map]; omega))) only [AR, AL, ifT, ifF, take_all, List.length_cons, List.length_nil, Int.reduceToNat, Int.reducePow, Nat.reducePow, x1, x2, Bool.not_false]) | (refine wk_intro (by kernel_rfl) ?_) | (refine vf_of (by first | exact c | exact f) ?_))
theorem chance_normal {n m : Int} {sa sb : Bool} {na da nb db : List Nat} {a b : Rat} {M : Nat} (hA : RatA (ratV sa na da) a M) (hB : RatA (ratV sb nb db) b M) (hM : 1 ≤ M) (hM2 : M ≤ 1000) (hx : RatA v x L) (hL1 : 1 ≤ L) (hL : L ≤ 1000)
    (f : Go.Ev.Fn CX 40 [rv ((x - a) / b), .int .i64 p] (.tup [ballR l h, .bool ok])) :
    Go.Ev.Fn CX 111 [distV 1 n m sa na da sb nb db, v, .int .i64 p] (.tup [ballR l h, .bool ok]) := by
  have zx := szR_of hx hL1
  have za := szR_of hA hM
  have sb := rat_Sub hx hA hL1 hM (by omega)
  have ov := dist_over (RatA_rv (szR_sub zx za hL1)) hB (by omega) hM (by omega)
  clear hA hB zx za
  obtain ⟨s, nn, dd, rfl, -⟩ := hx
  generalize (x - a) / b = y at *
  generalize x - a = y2 at *
  refine Go.Ev.Fn.intro (fn := Tryz.f111) (body := (Tryz.f111).body.get!) (by kernel_rfl) (by kernel_rfl) (by kernel_rfl) (fun _ => rfl) (Nat.le_of_ble_eq_true (by kernel_rfl)) ?_; unfold Tryz.f111; simp only [Option.get!_some]
  repeat (first | (simp only [go_sem, Nat.reduceEqDiff, Nat.reduceAdd, Nat.reduceSub, Nat.reduceMul, Nat.reduceLeDiff, Nat.reduceLT, reduceIte, reduceCtorEq, Nat.succ_ne_zero, elemsC, Int.reduceToNat, Nat.reducePow]) | (simp (disch := (first | omega | (simp only [AL, List.length_map]; omega))) only [AR, AL, ifT, ifF, take_all, List.length_cons, List.length_nil, Int.reduceToNat, Int.reducePow, Nat.reducePow]) | (refine wk_intro (by kernel_rfl) ?_) | (refine vp_draw (id := 3) (l := []) (by kernel_rfl) ?_) | (refine vp_draw (id := 11) (l := []) (by kernel_rfl) ?_) | (refine vp_draw (id := 13) (l := []) (by kernel_rfl) ?_) | (refine vp_draw (id := 15) (l := []) (by kernel_rfl) ?_) | (refine vp_draw (id := 17) (l := []) (by kernel_rfl) ?_) | (refine vp_draw (id := 18) (l := []) (by kernel_rfl) ?_) | (refine vp_draw (id := 24) (l := []) (by kernel_rfl) ?_) | (refine vp_draw (id := 26) (l := []) (by kernel_rfl) ?_) | (refine vf_of (by first | exact sb | exact ov | exact f) ?_))
/-- An Exponent's chance of what is not above 0. -/
theorem chance_expo0 {n m : Int} {sa sb : Bool} {na da nb db : List Nat} (hx : RatA v x L) (hL1 : 1 ≤ L) (hL : L ≤ 1000) (h0 : x ≤ 0) :
    Go.Ev.Fn CX 111 [distV 2 n m sa na da sb nb db, v, .int .i64 p] (.tup [ballR 0 0, .bool true]) := by
  have bl := dist_below hx hL1 (by omega) 0 (by omega)
  have ab := dist_above hx hL1 (by omega) 0 (by omega)
  rw [show ((0 : Int) : Rat) = 0 from rfl] at bl ab
  rw [decide_eq_false (show ¬ 0 < x by grind)] at ab
  have i0 := rat_Int 0 (by omega)
  have o := ball_Of (RatA_rv (int_szR (n := 0) (by omega))) (by omega)
  rw [show ((0 : Int) : Rat) = 0 from rfl] at i0 o
  obtain ⟨s, nn, dd, rfl, -⟩ := hx
  by_cases g : x < 0
  · rw [decide_eq_true g] at bl
    clear g h0
    refine Go.Ev.Fn.intro (fn := Tryz.f111) (body := (Tryz.f111).body.get!) (by kernel_rfl) (by kernel_rfl) (by kernel_rfl) (fun _ => rfl) (Nat.le_of_ble_eq_true (by kernel_rfl)) ?_; unfold Tryz.f111; simp only [Option.get!_some]
    repeat (first | (simp only [go_sem, Nat.reduceEqDiff, Nat.reduceAdd, Nat.reduceSub, Nat.reduceMul, Nat.reduceLeDiff, Nat.reduceLT, reduceIte, reduceCtorEq, Nat.succ_ne_zero, elemsC, Int.reduceToNat, Nat.reducePow]) | (simp (disch := (first | omega | (simp only [AL, List.length_map]; omega))) only [AR, AL, ifT, ifF, take_all, List.length_cons, List.length_nil, Int.reduceToNat, Int.reducePow, Nat.reducePow]) | (refine wk_intro (by kernel_rfl) ?_) | (refine vp_draw (id := 3) (l := []) (by kernel_rfl) ?_) | (refine vp_draw (id := 11) (l := []) (by kernel_rfl) ?_) | (refine vp_draw (id := 13) (l := []) (by kernel_rfl) ?_) | (refine vp_draw (id := 15) (l := []) (by kernel_rfl) ?_) | (refine vp_draw (id := 17) (l := []) (by kernel_rfl) ?_) | (refine vp_draw (id := 18) (l := []) (by kernel_rfl) ?_) | (refine vp_draw (id := 24) (l := []) (by kernel_rfl) ?_) | (refine vp_draw (id := 26) (l := []) (by kernel_rfl) ?_) | (refine vf_of (by first | exact bl | exact i0 | exact o) ?_))
  · rw [decide_eq_false g] at bl
    clear g h0
    refine Go.Ev.Fn.intro (fn := Tryz.f111) (body := (Tryz.f111).body.get!) (by kernel_rfl) (by kernel_rfl) (by kernel_rfl) (fun _ => rfl) (Nat.le_of_ble_eq_true (by kernel_rfl)) ?_; unfold Tryz.f111; simp only [Option.get!_some]
    repeat (first | (simp only [go_sem, Nat.reduceEqDiff, Nat.reduceAdd, Nat.reduceSub, Nat.reduceMul, Nat.reduceLeDiff, Nat.reduceLT, reduceIte, reduceCtorEq, Nat.succ_ne_zero, elemsC, Int.reduceToNat, Nat.reducePow, Bool.not_false]) | (simp (disch := (first | omega | (simp only [AL, List.length_map]; omega))) only [AR, AL, ifT, ifF, take_all, List.length_cons, List.length_nil, Int.reduceToNat, Int.reducePow, Nat.reducePow, Bool.not_false]) | (refine wk_intro (by kernel_rfl) ?_) | (refine vp_draw (id := 3) (l := []) (by kernel_rfl) ?_) | (refine vp_draw (id := 11) (l := []) (by kernel_rfl) ?_) | (refine vp_draw (id := 13) (l := []) (by kernel_rfl) ?_) | (refine vp_draw (id := 15) (l := []) (by kernel_rfl) ?_) | (refine vp_draw (id := 17) (l := []) (by kernel_rfl) ?_) | (refine vp_draw (id := 18) (l := []) (by kernel_rfl) ?_) | (refine vp_draw (id := 24) (l := []) (by kernel_rfl) ?_) | (refine vp_draw (id := 26) (l := []) (by kernel_rfl) ?_) | (refine vf_of (by first | exact bl | exact ab | exact i0 | exact o) ?_))
theorem chance_expo {n m : Int} {sa sb : Bool} {na da nb db : List Nat} {a : Rat} {M : Nat} (hA : RatA (ratV sa na da) a M) (hM : 1 ≤ M) (hM2 : M ≤ 1000) (hx : RatA v x L) (hL1 : 1 ≤ L) (hL : L ≤ 1000) (h0 : 0 < x) (z1 : szR l 400) (z2 : szR h 400)
    (f : Go.Ev.Fn CX 58 [rv (-(a * x)), .int .i64 p] (.tup [ballR l h, .bool ok])) :
    Go.Ev.Fn CX 111 [distV 2 n m sa na da sb nb db, v, .int .i64 p] (.tup [ballR (1 - h) (1 - l), .bool ok]) := by
  have bl := dist_below hx hL1 (by omega) 0 (by omega)
  have ab := dist_above hx hL1 (by omega) 0 (by omega)
  rw [show ((0 : Int) : Rat) = 0 from rfl] at bl ab
  rw [decide_eq_false (show ¬ x < 0 by grind)] at bl
  rw [decide_eq_true h0] at ab
  have zx := szR_of hx hL1
  have za := szR_of hA hM
  have mu := rat_Mul hA hx hM hL1 (by omega)
  have ng := rat_Neg (RatA_rv (szR_mul za zx hM)) (by omega) (by omega)
  have d1 := distE_one
  have bs := ball_Sub (a := 1) (b := 1) (L := 400) (szR_mono unit_len (by omega)) (szR_mono unit_len (by omega)) z1 z2 (by omega) (by omega)
  clear hA zx za z1 z2 h0
  obtain ⟨s, nn, dd, rfl, -⟩ := hx
  generalize -(a * x) = y1 at *
  generalize a * x = y2 at *
  generalize 1 - h = u1 at *
  generalize 1 - l = u2 at *
  refine Go.Ev.Fn.intro (fn := Tryz.f111) (body := (Tryz.f111).body.get!) (by kernel_rfl) (by kernel_rfl) (by kernel_rfl) (fun _ => rfl) (Nat.le_of_ble_eq_true (by kernel_rfl)) ?_; unfold Tryz.f111; simp only [Option.get!_some]
  repeat (first | (simp only [go_sem, Nat.reduceEqDiff, Nat.reduceAdd, Nat.reduceSub, Nat.reduceMul, Nat.reduceLeDiff, Nat.reduceLT, reduceIte, reduceCtorEq, Nat.succ_ne_zero, elemsC, Int.reduceToNat, Nat.reducePow, Bool.not_true]) | (simp (disch := (first | omega | (simp only [AL, List.length_map]; omega))) only [AR, AL, ifT, ifF, take_all, List.length_cons, List.length_nil, Int.reduceToNat, Int.reducePow, Nat.reducePow, Bool.not_true]) | (refine wk_intro (by kernel_rfl) ?_) | (refine vp_draw (id := 3) (l := []) (by kernel_rfl) ?_) | (refine vp_draw (id := 11) (l := []) (by kernel_rfl) ?_) | (refine vp_draw (id := 13) (l := []) (by kernel_rfl) ?_) | (refine vp_draw (id := 15) (l := []) (by kernel_rfl) ?_) | (refine vp_draw (id := 17) (l := []) (by kernel_rfl) ?_) | (refine vp_draw (id := 18) (l := []) (by kernel_rfl) ?_) | (refine vp_draw (id := 24) (l := []) (by kernel_rfl) ?_) | (refine vp_draw (id := 26) (l := []) (by kernel_rfl) ?_) | (refine vf_of (by first | exact bl | exact ab | exact mu | exact ng | exact f | exact d1 | exact bs) ?_))
theorem exps_ExpFar {pI : Int} (hv : RatA v x L) (hL1 : 1 ≤ L) (hL : L ≤ 100) (hx : x < -64) : Go.Ev.Fn CX 58 [v, .int .i64 pI] (.tup [ballR 0 0, .bool false]) := by
  have zx := szR_of hv hL1
  have n1 := rat_Norm hv (by omega)
  have im := rat_Int (-64) (by omega)
  have i0 := rat_Int 0 (by omega)
  have c1 := rat_Cmp (RatA_rv zx) (RatA_rv (int_szR (n := -64) (by omega))) hL1 (by omega) (by omega)
  have o := ball_Of (RatA_rv (int_szR (n := 0) (by omega))) (by omega)
  rw [show ((0 : Int) : Rat) = 0 from rfl] at i0 o
  have e1 : decide (cmpR x ((-64 : Int) : Rat) < 0) = true := by rw [cmpR_lt]; exact decide_eq_true hx
  clear hx zx
  obtain ⟨s, n, d, rfl, -⟩ := hv
  generalize cmpR x ((-64 : Int) : Rat) = y1 at *
  refine Go.Ev.Fn.intro (fn := Tryz.f58) (body := (Tryz.f58).body.get!) (by kernel_rfl) (by kernel_rfl) (by kernel_rfl) (fun _ => rfl) (Nat.le_of_ble_eq_true (by kernel_rfl)) ?_; unfold Tryz.f58; simp only [Option.get!_some]
  repeat (first | (simp only [go_sem, Nat.reduceEqDiff, Nat.reduceAdd, Nat.reduceSub, Nat.reduceMul, Nat.reduceLeDiff, Nat.reduceLT, reduceIte, reduceCtorEq, Nat.succ_ne_zero, elemsC, Int.reduceToNat, Nat.reducePow, e1]) | (simp (disch := (first | omega | (simp only [AL, List.length_map]; omega))) only [AR, AL, ifT, ifF, take_all, List.length_cons, List.length_nil, Int.reduceToNat, Int.reducePow, Nat.reducePow, e1]) | (refine wk_intro (by kernel_rfl) ?_) | (refine vp_draw (id := 2) (l := []) (by kernel_rfl) ?_) | (refine vf_of (by first | exact n1 | exact im | exact c1 | exact i0 | exact o) ?_))
/-- e to the power of minus a number above 0, or that it is too great. -/
theorem exp_minus (hz : szR x 3) (h0 : 0 < x) (hP : P ≤ 512) : ∃ l h : Rat, ∃ ok : Bool, Go.Ev.Fn CX 58 [rv (-x), .int .i64 (P : Int)] (.tup [ballR l h, .bool ok]) ∧ szR l 400 ∧ szR h 400 ∧ l ≤ h := by
  have zn := szR_neg hz
  by_cases g : 64 < x
  · exact ⟨0, 0, false, exps_ExpFar (RatA_rv zn) (by omega) (by omega) (by grind), szR_zero (by omega), szR_zero (by omega), Rat.le_refl⟩
  · obtain ⟨m, -, fn, s0, hs⟩ := exps_Exp (P := P) (pI := (P : Int)) (RatA_rv zn) (by omega) (by omega) (by grind) (by grind) (by grind) (den_le zn (by omega)) hP (.inr rfl)
    have W := p2_pos P
    have hm : m ≤ 2 ^ P := by
      have e := (hs (s0 + 1) (by omega)).1
      have one := E_one (x := - -x) (by grind) (L := s0 + 1) (by omega)
      have i : Ex.E (- -x) (s0 + 1) * (1 / Ex.E (- -x) (s0 + 1)) = 1 := Ex.mul_div _ 1 (by grind)
      have i0 : 0 ≤ 1 / Ex.E (- -x) (s0 + 1) := Ex.div_nn (by decide) (by grind)
      have le1 : 1 / Ex.E (- -x) (s0 + 1) ≤ 1 := by
        have := Rat.mul_le_mul_of_nonneg_right one i0
        rw [i, Rat.one_mul] at this; exact this
      unfold evX at e
      rw [if_pos (by grind)] at e
      have k := Rat.le_trans e (Rat.mul_le_mul_of_nonneg_right le1 (Rat.le_of_lt W))
      rw [Rat.one_mul] at k
      exact_mod_cast k
    have lp := lim_len_pw (n := 2 ^ P) (w := P + 1) (by rw [Nat.pow_succ]; have : 0 < 2 ^ P := Nat.pow_pos (by omega); omega)
    have lm2 := lim_len_pw (n := m + 1) (w := P + 2) (by rw [Nat.pow_add]; have : 0 < 2 ^ P := Nat.pow_pos (by omega); omega)
    have lm1 : (lim m).length ≤ (lim (m + 1)).length := lim_len_mono (Nat.le_succ m)
    refine ⟨_, _, true, fn, szR_nat (by omega) (by omega) (by omega), szR_nat (by omega) (by omega) (by omega), ?_⟩
    refine le_by W ?_
    rw [mk_p2, mk_p2]
    exact Ex.castle (Nat.le_succ m)
end
theorem nil_RatE : RatA (ratV false [] []) 0 1 := ⟨false, [], [], rfl, by simp [okL], by simp [okL], by simp, by simp, by decide +kernel⟩
theorem knownE14 : Go.Ev.Fn CX 50 [] (.bool true) := says_fn (n := 80) (by kernel_rfl)
theorem chk_normal {a b : Rat} (h : 0 < b) : chkD 1 0 0 a b = 0 := by
  unfold chkD
  rw [show inD 1 0 0 a b = decide (0 < b) from rfl, show gtD 1 0 0 a = false from rfl, decide_eq_true h]
  rfl
theorem chk_expo {a b : Rat} (h : 0 < a) : chkD 2 0 0 a b = 0 := by
  unfold chkD
  rw [show inD 2 0 0 a b = decide (0 < a) from rfl, show gtD 2 0 0 a = false from rfl, decide_eq_true h]
  rfl
/-- The normal curve's share, or that it is too far. -/
theorem phi_any {z : Rat} {P : Nat} (hz : szR z 3) (hP : P ≤ 96) : ∃ l h : Rat, ∃ ok : Bool, Go.Ev.Fn CX 40 [rv z, .int .i64 (P : Int)] (.tup [ballR l h, .bool ok]) ∧ szR l 500 ∧ szR h 500 ∧ l ≤ h := by
  have z0 : szR 0 500 := szR_zero (by omega)
  by_cases far : z < -8 ∨ 8 < z
  · exact ⟨0, 0, false, bell_PhiFar (RatA_rv hz) far, z0, z0, Rat.le_refl⟩
  have n1 : -8 ≤ z := Rat.not_lt.1 fun h => far (.inl h)
  have n2 : z ≤ 8 := Rat.not_lt.1 fun h => far (.inr h)
  by_cases e : z = 0
  · subst e
    exact ⟨1 / 2, 1 / 2, true, bell_Phi0 (RatA_rv hz), szR_mono hlf_len (by omega), szR_mono hlf_len (by omega), Rat.le_refl⟩
  rcases Rat.le_total (a := 0) (b := z) with g | g
  · obtain ⟨l, h, t1, t2, t3, f1, f2⟩ := bell_Phi (pI := (P : Int)) hz (by grind) n2 (.inr rfl) hP
    refine ⟨_, _, true, f1 _ (RatA_rv hz), szR_mono (szR_add hlf_len t2 (by omega)) (by omega), szR_mono (szR_add hlf_len t3 (by omega)) (by omega), ?_⟩
    generalize (1 / 2 : Rat) = hf at *
    clear f1 f2
    grind
  · have zn := szR_neg hz
    obtain ⟨l, h, t1, t2, t3, f1, f2⟩ := bell_Phi (z := -z) (pI := (P : Int)) zn (by grind) (by grind) (.inr rfl) hP
    have hv' : RatA (rv z) (- -z) 3 := by rw [Rat.neg_neg]; exact RatA_rv hz
    refine ⟨_, _, true, f2 _ hv', szR_mono (szR_add hlf_len (szR_neg t3) (by omega)) (by omega), szR_mono (szR_add hlf_len (szR_neg t2) (by omega)) (by omega), ?_⟩
    generalize (1 / 2 : Rat) = hf at *
    clear f1 f2
    grind
end Go.Proofs.YtemnjalaincijaaGreat

/- vernierlaw14.DistScales, in the evaluator. -/
namespace Go.Proofs.YtemnjalaincijaaGreat
set_option linter.unusedSimpArgs false
set_option linter.unusedVariables false
set_option maxRecDepth 8000
open Go.Ev
set_option linter.unusedVariables false
theorem wf_int64H {n : Int} (h : (Lit.int .i64 n).wf = true) : -9223372036854775808 ≤ n ∧ n < 9223372036854775808 := by
  have h' : decide (IntKind.i64.min ≤ n ∧ n ≤ IntKind.i64.max) = true := by simpa [Lit.wf] using h
  have := of_decide_eq_true h'
  simp only [show IntKind.i64.min = -9223372036854775808 from rfl, show IntKind.i64.max = 9223372036854775807 from rfl] at this
  omega
section
variable {mean by' z : Rat} {p : Int} {sm sb sz : Bool} {nm dm nb db nz dz : List Nat}
set_option maxHeartbeats 2000000 in
theorem scales_out (h1 : nm.length ≤ 9223372036854775807) (h2 : dm.length ≤ 9223372036854775807) (h3 : nb.length ≤ 9223372036854775807) (h4 : db.length ≤ 9223372036854775807) (h5 : nz.length ≤ 9223372036854775807) (h6 : dz.length ≤ 9223372036854775807) (hp : -9223372036854775808 ≤ p ∧ p < 9223372036854775808)
    (h : 1 < nm.length ∨ 1 < dm.length ∨ 1 < nb.length ∨ 1 < db.length ∨ 1 < nz.length ∨ 1 < dz.length ∨ p < 0 ∨ 50 < p) : Go.Ev.Fn CX 13 [ratV sm nm dm, ratV sb nb db, ratV sz nz dz, .int .i64 p] (.bool true) := by
  by_cases c1 : 1 < nm.length
  · refine Go.Ev.Fn.intro (fn := Tryz.f13) (body := (Tryz.f13).body.get!) (by kernel_rfl) (by kernel_rfl) (by kernel_rfl) (fun _ => rfl) (Nat.le_of_ble_eq_true (by kernel_rfl)) ?_; unfold Tryz.f13; simp only [Option.get!_some]
    repeat (first | (simp only [go_sem, Nat.reduceEqDiff, Nat.reduceAdd, Nat.reduceSub, Nat.reduceMul, Nat.reduceLeDiff, Nat.reduceLT, reduceIte, reduceCtorEq, Nat.succ_ne_zero, elemsC, Int.reduceToNat, Nat.reducePow]) | (simp (disch := (first | omega | (simp only [AL, List.length_map]; omega))) only [AR, AL, ifT, ifF, take_all, List.length_cons, List.length_nil, Int.reduceToNat, Int.reducePow, Nat.reducePow]) | (refine wk_intro (by kernel_rfl) ?_) | (refine vp_draw (id := 1) (l := []) (by kernel_rfl) ?_) | (refine vp_draw (id := 3) (l := []) (by kernel_rfl) ?_) | (refine vp_draw (id := 4) (l := []) (by kernel_rfl) ?_) | (refine vp_draw (id := 6) (l := []) (by kernel_rfl) ?_))
  by_cases c2 : 1 < dm.length
  · refine Go.Ev.Fn.intro (fn := Tryz.f13) (body := (Tryz.f13).body.get!) (by kernel_rfl) (by kernel_rfl) (by kernel_rfl) (fun _ => rfl) (Nat.le_of_ble_eq_true (by kernel_rfl)) ?_; unfold Tryz.f13; simp only [Option.get!_some]
    repeat (first | (simp only [go_sem, Nat.reduceEqDiff, Nat.reduceAdd, Nat.reduceSub, Nat.reduceMul, Nat.reduceLeDiff, Nat.reduceLT, reduceIte, reduceCtorEq, Nat.succ_ne_zero, elemsC, Int.reduceToNat, Nat.reducePow]) | (simp (disch := (first | omega | (simp only [AL, List.length_map]; omega))) only [AR, AL, ifT, ifF, take_all, List.length_cons, List.length_nil, Int.reduceToNat, Int.reducePow, Nat.reducePow]) | (refine wk_intro (by kernel_rfl) ?_) | (refine vp_draw (id := 1) (l := []) (by kernel_rfl) ?_) | (refine vp_draw (id := 3) (l := []) (by kernel_rfl) ?_) | (refine vp_draw (id := 4) (l := []) (by kernel_rfl) ?_) | (refine vp_draw (id := 6) (l := []) (by kernel_rfl) ?_))
  by_cases c3 : 1 < nb.length
  · refine Go.Ev.Fn.intro (fn := Tryz.f13) (body := (Tryz.f13).body.get!) (by kernel_rfl) (by kernel_rfl) (by kernel_rfl) (fun _ => rfl) (Nat.le_of_ble_eq_true (by kernel_rfl)) ?_; unfold Tryz.f13; simp only [Option.get!_some]
    repeat (first | (simp only [go_sem, Nat.reduceEqDiff, Nat.reduceAdd, Nat.reduceSub, Nat.reduceMul, Nat.reduceLeDiff, Nat.reduceLT, reduceIte, reduceCtorEq, Nat.succ_ne_zero, elemsC, Int.reduceToNat, Nat.reducePow]) | (simp (disch := (first | omega | (simp only [AL, List.length_map]; omega))) only [AR, AL, ifT, ifF, take_all, List.length_cons, List.length_nil, Int.reduceToNat, Int.reducePow, Nat.reducePow]) | (refine wk_intro (by kernel_rfl) ?_) | (refine vp_draw (id := 1) (l := []) (by kernel_rfl) ?_) | (refine vp_draw (id := 3) (l := []) (by kernel_rfl) ?_) | (refine vp_draw (id := 4) (l := []) (by kernel_rfl) ?_) | (refine vp_draw (id := 6) (l := []) (by kernel_rfl) ?_))
  by_cases c4 : 1 < db.length
  · refine Go.Ev.Fn.intro (fn := Tryz.f13) (body := (Tryz.f13).body.get!) (by kernel_rfl) (by kernel_rfl) (by kernel_rfl) (fun _ => rfl) (Nat.le_of_ble_eq_true (by kernel_rfl)) ?_; unfold Tryz.f13; simp only [Option.get!_some]
    repeat (first | (simp only [go_sem, Nat.reduceEqDiff, Nat.reduceAdd, Nat.reduceSub, Nat.reduceMul, Nat.reduceLeDiff, Nat.reduceLT, reduceIte, reduceCtorEq, Nat.succ_ne_zero, elemsC, Int.reduceToNat, Nat.reducePow]) | (simp (disch := (first | omega | (simp only [AL, List.length_map]; omega))) only [AR, AL, ifT, ifF, take_all, List.length_cons, List.length_nil, Int.reduceToNat, Int.reducePow, Nat.reducePow]) | (refine wk_intro (by kernel_rfl) ?_) | (refine vp_draw (id := 1) (l := []) (by kernel_rfl) ?_) | (refine vp_draw (id := 3) (l := []) (by kernel_rfl) ?_) | (refine vp_draw (id := 4) (l := []) (by kernel_rfl) ?_) | (refine vp_draw (id := 6) (l := []) (by kernel_rfl) ?_))
  by_cases c5 : 1 < nz.length
  · refine Go.Ev.Fn.intro (fn := Tryz.f13) (body := (Tryz.f13).body.get!) (by kernel_rfl) (by kernel_rfl) (by kernel_rfl) (fun _ => rfl) (Nat.le_of_ble_eq_true (by kernel_rfl)) ?_; unfold Tryz.f13; simp only [Option.get!_some]
    repeat (first | (simp only [go_sem, Nat.reduceEqDiff, Nat.reduceAdd, Nat.reduceSub, Nat.reduceMul, Nat.reduceLeDiff, Nat.reduceLT, reduceIte, reduceCtorEq, Nat.succ_ne_zero, elemsC, Int.reduceToNat, Nat.reducePow]) | (simp (disch := (first | omega | (simp only [AL, List.length_map]; omega))) only [AR, AL, ifT, ifF, take_all, List.length_cons, List.length_nil, Int.reduceToNat, Int.reducePow, Nat.reducePow]) | (refine wk_intro (by kernel_rfl) ?_) | (refine vp_draw (id := 1) (l := []) (by kernel_rfl) ?_) | (refine vp_draw (id := 3) (l := []) (by kernel_rfl) ?_) | (refine vp_draw (id := 4) (l := []) (by kernel_rfl) ?_) | (refine vp_draw (id := 6) (l := []) (by kernel_rfl) ?_))
  by_cases c6 : 1 < dz.length
  · refine Go.Ev.Fn.intro (fn := Tryz.f13) (body := (Tryz.f13).body.get!) (by kernel_rfl) (by kernel_rfl) (by kernel_rfl) (fun _ => rfl) (Nat.le_of_ble_eq_true (by kernel_rfl)) ?_; unfold Tryz.f13; simp only [Option.get!_some]
    repeat (first | (simp only [go_sem, Nat.reduceEqDiff, Nat.reduceAdd, Nat.reduceSub, Nat.reduceMul, Nat.reduceLeDiff, Nat.reduceLT, reduceIte, reduceCtorEq, Nat.succ_ne_zero, elemsC, Int.reduceToNat, Nat.reducePow]) | (simp (disch := (first | omega | (simp only [AL, List.length_map]; omega))) only [AR, AL, ifT, ifF, take_all, List.length_cons, List.length_nil, Int.reduceToNat, Int.reducePow, Nat.reducePow]) | (refine wk_intro (by kernel_rfl) ?_) | (refine vp_draw (id := 1) (l := []) (by kernel_rfl) ?_) | (refine vp_draw (id := 3) (l := []) (by kernel_rfl) ?_) | (refine vp_draw (id := 4) (l := []) (by kernel_rfl) ?_) | (refine vp_draw (id := 6) (l := []) (by kernel_rfl) ?_))
  by_cases c7 : p < 0
  · refine Go.Ev.Fn.intro (fn := Tryz.f13) (body := (Tryz.f13).body.get!) (by kernel_rfl) (by kernel_rfl) (by kernel_rfl) (fun _ => rfl) (Nat.le_of_ble_eq_true (by kernel_rfl)) ?_; unfold Tryz.f13; simp only [Option.get!_some]
    repeat (first | (simp only [go_sem, Nat.reduceEqDiff, Nat.reduceAdd, Nat.reduceSub, Nat.reduceMul, Nat.reduceLeDiff, Nat.reduceLT, reduceIte, reduceCtorEq, Nat.succ_ne_zero, elemsC, Int.reduceToNat, Nat.reducePow]) | (simp (disch := (first | omega | (simp only [AL, List.length_map]; omega))) only [AR, AL, ifT, ifF, take_all, List.length_cons, List.length_nil, Int.reduceToNat, Int.reducePow, Nat.reducePow]) | (refine wk_intro (by kernel_rfl) ?_) | (refine vp_draw (id := 1) (l := []) (by kernel_rfl) ?_) | (refine vp_draw (id := 3) (l := []) (by kernel_rfl) ?_) | (refine vp_draw (id := 4) (l := []) (by kernel_rfl) ?_) | (refine vp_draw (id := 6) (l := []) (by kernel_rfl) ?_))
  · have c8 : 50 < p := by omega
    refine Go.Ev.Fn.intro (fn := Tryz.f13) (body := (Tryz.f13).body.get!) (by kernel_rfl) (by kernel_rfl) (by kernel_rfl) (fun _ => rfl) (Nat.le_of_ble_eq_true (by kernel_rfl)) ?_; unfold Tryz.f13; simp only [Option.get!_some]
    repeat (first | (simp only [go_sem, Nat.reduceEqDiff, Nat.reduceAdd, Nat.reduceSub, Nat.reduceMul, Nat.reduceLeDiff, Nat.reduceLT, reduceIte, reduceCtorEq, Nat.succ_ne_zero, elemsC, Int.reduceToNat, Nat.reducePow]) | (simp (disch := (first | omega | (simp only [AL, List.length_map]; omega))) only [AR, AL, ifT, ifF, take_all, List.length_cons, List.length_nil, Int.reduceToNat, Int.reducePow, Nat.reducePow]) | (refine wk_intro (by kernel_rfl) ?_) | (refine vp_draw (id := 1) (l := []) (by kernel_rfl) ?_) | (refine vp_draw (id := 3) (l := []) (by kernel_rfl) ?_) | (refine vp_draw (id := 4) (l := []) (by kernel_rfl) ?_) | (refine vp_draw (id := 6) (l := []) (by kernel_rfl) ?_))
theorem scales_low (hB : RatA (ratV sb nb db) by' 1) (h1 : nm.length ≤ 1) (h2 : dm.length ≤ 1) (h3 : nb.length ≤ 1) (h4 : db.length ≤ 1) (h5 : nz.length ≤ 1) (h6 : dz.length ≤ 1) (hp : 0 ≤ p ∧ p ≤ 50) (hx : by' ≤ 0) :
    Go.Ev.Fn CX 13 [ratV sm nm dm, ratV sb nb db, ratV sz nz dz, .int .i64 p] (.bool true) := by
  have i0 := ref2_Int 0 (by omega)
  have cm := ref2_Cmp hB (RatA_rv (int_szR (n := 0) (by omega))) (by omega) (by omega) (by omega)
  rw [show ((0 : Int) : Rat) = 0 from rfl] at i0 cm
  have e1 : decide (cmpR by' 0 ≤ 0) = true := by rw [cmpR_le]; exact decide_eq_true hx
  clear hB hx
  generalize cmpR by' 0 = y at *
  refine Go.Ev.Fn.intro (fn := Tryz.f13) (body := (Tryz.f13).body.get!) (by kernel_rfl) (by kernel_rfl) (by kernel_rfl) (fun _ => rfl) (Nat.le_of_ble_eq_true (by kernel_rfl)) ?_; unfold Tryz.f13; simp only [Option.get!_some]
  repeat (first | (simp only [go_sem, Nat.reduceEqDiff, Nat.reduceAdd, Nat.reduceSub, Nat.reduceMul, Nat.reduceLeDiff, Nat.reduceLT, reduceIte, reduceCtorEq, Nat.succ_ne_zero, elemsC, Int.reduceToNat, Nat.reducePow, e1]) | (simp (disch := (first | omega | (simp only [AL, List.length_map]; omega))) only [AR, AL, ifT, ifF, take_all, List.length_cons, List.length_nil, Int.reduceToNat, Int.reducePow, Nat.reducePow, e1]) | (refine wk_intro (by kernel_rfl) ?_) | (refine vp_draw (id := 1) (l := []) (by kernel_rfl) ?_) | (refine vp_draw (id := 3) (l := []) (by kernel_rfl) ?_) | (refine vp_draw (id := 4) (l := []) (by kernel_rfl) ?_) | (refine vp_draw (id := 6) (l := []) (by kernel_rfl) ?_) | (refine vf_of (by first | exact i0 | exact cm) ?_))
set_option maxHeartbeats 2000000 in
theorem scales_walk {one q0 q1 q2 : Rat} {a b c d : Rat} {okN okE : Bool} {P : Nat} (h1 : nm.length ≤ 1) (h2 : dm.length ≤ 1) (h3 : nb.length ≤ 1) (h4 : db.length ≤ 1) (h5 : nz.length ≤ 1) (h6 : dz.length ≤ 1) (hP : P ≤ 50) {y : Int}
    (i0 : Go.Ev.Fn CX 23 [.int .i64 0] (rv q0)) (cm : Go.Ev.Fn CX 39 [ratV sb nb db, rv q0] (.int .i64 y)) (e1 : decide (y ≤ 0) = false)
    (i1 : Go.Ev.Fn CX 23 [.int .i64 1] (rv one)) (mu : Go.Ev.Fn CX 29 [ratV sb nb db, ratV sz nz dz] (rv q1)) (ad : Go.Ev.Fn CX 33 [ratV sm nm dm, rv q1] (rv q2)) {q : Rat} {bb : Bool}
    (dv : Go.Ev.Fn CX 34 [ratV sz nz dz, ratV sb nb db] (.tup [rv q, .bool bb]))
    (c1 : Go.Ev.Fn CX 49 [distV 1 0 0 false [] [] (decide (one.num < 0)) (lim one.num.natAbs) (lim one.den), ratV sz nz dz, .int .i64 (P : Int)] (cdfV okN a b))
    (c2 : Go.Ev.Fn CX 49 [distV 1 0 0 sm nm dm sb nb db, rv q2, .int .i64 (P : Int)] (cdfV okN a b))
    (c3 : Go.Ev.Fn CX 49 [distV 2 0 0 (decide (one.num < 0)) (lim one.num.natAbs) (lim one.den) false [] [], ratV sz nz dz, .int .i64 (P : Int)] (cdfV okE c d))
    (c4 : Go.Ev.Fn CX 49 [distV 2 0 0 sb nb db false [] [], rv q, .int .i64 (P : Int)] (cdfV okE c d))
    (s1 : Go.Ev.Fn CX 19 [ballR a b, ballR a b] (.int .i64 0)) (s2 : Go.Ev.Fn CX 19 [ballR c d, ballR c d] (.int .i64 0)) (kn : Go.Ev.Fn CX 50 [] (.bool true)) :
    Go.Ev.Fn CX 13 [ratV sm nm dm, ratV sb nb db, ratV sz nz dz, .int .i64 (P : Int)] (.bool true) := by
  cases okN with
  | true =>
    have c1' : Go.Ev.Fn CX 49 [distV 1 0 0 false [] [] (decide (one.num < 0)) (lim one.num.natAbs) (lim one.den), ratV sz nz dz, .int .i64 (P : Int)] (.tup [ballR a b, .int .i64 0]) := c1
    have c2' : Go.Ev.Fn CX 49 [distV 1 0 0 sm nm dm sb nb db, rv q2, .int .i64 (P : Int)] (.tup [ballR a b, .int .i64 0]) := c2
    clear c1 c2
    cases okE with
    | true =>
      have c3' : Go.Ev.Fn CX 49 [distV 2 0 0 (decide (one.num < 0)) (lim one.num.natAbs) (lim one.den) false [] [], ratV sz nz dz, .int .i64 (P : Int)] (.tup [ballR c d, .int .i64 0]) := c3
      have c4' : Go.Ev.Fn CX 49 [distV 2 0 0 sb nb db false [] [], rv q, .int .i64 (P : Int)] (.tup [ballR c d, .int .i64 0]) := c4
      clear c3 c4
      refine Go.Ev.Fn.intro (fn := Tryz.f13) (body := (Tryz.f13).body.get!) (by kernel_rfl) (by kernel_rfl) (by kernel_rfl) (fun _ => rfl) (Nat.le_of_ble_eq_true (by kernel_rfl)) ?_; unfold Tryz.f13; simp only [Option.get!_some]
      repeat (first | (simp only [go_sem, Nat.reduceEqDiff, Nat.reduceAdd, Nat.reduceSub, Nat.reduceMul, Nat.reduceLeDiff, Nat.reduceLT, reduceIte, reduceCtorEq, Nat.succ_ne_zero, elemsC, Int.reduceToNat, Nat.reducePow, e1]) | (simp (disch := (first | omega | (simp only [AL, List.length_map]; omega))) only [AR, AL, ifT, ifF, take_all, List.length_cons, List.length_nil, Int.reduceToNat, Int.reducePow, Nat.reducePow, e1]) | (refine wk_intro (by kernel_rfl) ?_) | (refine vp_draw (id := 1) (l := []) (by kernel_rfl) ?_) | (refine vp_draw (id := 3) (l := []) (by kernel_rfl) ?_) | (refine vp_draw (id := 4) (l := []) (by kernel_rfl) ?_) | (refine vp_draw (id := 6) (l := []) (by kernel_rfl) ?_) | (refine vf_of (by first | exact i0 | exact cm | exact i1 | exact c1' | exact mu | exact ad | exact c2' | exact dv | exact c3' | exact c4' | exact s1 | exact s2 | exact kn) ?_))
    | false =>
      have c3' : Go.Ev.Fn CX 49 [distV 2 0 0 (decide (one.num < 0)) (lim one.num.natAbs) (lim one.den) false [] [], ratV sz nz dz, .int .i64 (P : Int)] (.tup [noB, .int .i64 7]) := c3
      have c4' : Go.Ev.Fn CX 49 [distV 2 0 0 sb nb db false [] [], rv q, .int .i64 (P : Int)] (.tup [noB, .int .i64 7]) := c4
      clear c3 c4 s2
      refine Go.Ev.Fn.intro (fn := Tryz.f13) (body := (Tryz.f13).body.get!) (by kernel_rfl) (by kernel_rfl) (by kernel_rfl) (fun _ => rfl) (Nat.le_of_ble_eq_true (by kernel_rfl)) ?_; unfold Tryz.f13; simp only [Option.get!_some]
      repeat (first | (simp only [go_sem, Nat.reduceEqDiff, Nat.reduceAdd, Nat.reduceSub, Nat.reduceMul, Nat.reduceLeDiff, Nat.reduceLT, reduceIte, reduceCtorEq, Nat.succ_ne_zero, elemsC, Int.reduceToNat, Nat.reducePow, e1]) | (simp (disch := (first | omega | (simp only [AL, List.length_map]; omega))) only [AR, AL, ifT, ifF, take_all, List.length_cons, List.length_nil, Int.reduceToNat, Int.reducePow, Nat.reducePow, e1]) | (refine wk_intro (by kernel_rfl) ?_) | (refine vp_draw (id := 1) (l := []) (by kernel_rfl) ?_) | (refine vp_draw (id := 3) (l := []) (by kernel_rfl) ?_) | (refine vp_draw (id := 4) (l := []) (by kernel_rfl) ?_) | (refine vp_draw (id := 6) (l := []) (by kernel_rfl) ?_) | (refine vf_of (by first | exact i0 | exact cm | exact i1 | exact c1' | exact mu | exact ad | exact c2' | exact dv | exact c3' | exact c4' | exact s1 | exact kn) ?_))
  | false =>
    have c1' : Go.Ev.Fn CX 49 [distV 1 0 0 false [] [] (decide (one.num < 0)) (lim one.num.natAbs) (lim one.den), ratV sz nz dz, .int .i64 (P : Int)] (.tup [noB, .int .i64 7]) := c1
    have c2' : Go.Ev.Fn CX 49 [distV 1 0 0 sm nm dm sb nb db, rv q2, .int .i64 (P : Int)] (.tup [noB, .int .i64 7]) := c2
    clear c1 c2 s1
    cases okE with
    | true =>
      have c3' : Go.Ev.Fn CX 49 [distV 2 0 0 (decide (one.num < 0)) (lim one.num.natAbs) (lim one.den) false [] [], ratV sz nz dz, .int .i64 (P : Int)] (.tup [ballR c d, .int .i64 0]) := c3
      have c4' : Go.Ev.Fn CX 49 [distV 2 0 0 sb nb db false [] [], rv q, .int .i64 (P : Int)] (.tup [ballR c d, .int .i64 0]) := c4
      clear c3 c4
      refine Go.Ev.Fn.intro (fn := Tryz.f13) (body := (Tryz.f13).body.get!) (by kernel_rfl) (by kernel_rfl) (by kernel_rfl) (fun _ => rfl) (Nat.le_of_ble_eq_true (by kernel_rfl)) ?_; unfold Tryz.f13; simp only [Option.get!_some]
      repeat (first | (simp only [go_sem, Nat.reduceEqDiff, Nat.reduceAdd, Nat.reduceSub, Nat.reduceMul, Nat.reduceLeDiff, Nat.reduceLT, reduceIte, reduceCtorEq, Nat.succ_ne_zero, elemsC, Int.reduceToNat, Nat.reducePow, e1]) | (simp (disch := (first | omega | (simp only [AL, List.length_map]; omega))) only [AR, AL, ifT, ifF, take_all, List.length_cons, List.length_nil, Int.reduceToNat, Int.reducePow, Nat.reducePow, e1]) | (refine wk_intro (by kernel_rfl) ?_) | (refine vp_draw (id := 1) (l := []) (by kernel_rfl) ?_) | (refine vp_draw (id := 3) (l := []) (by kernel_rfl) ?_) | (refine vp_draw (id := 4) (l := []) (by kernel_rfl) ?_) | (refine vp_draw (id := 6) (l := []) (by kernel_rfl) ?_) | (refine vf_of (by first | exact i0 | exact cm | exact i1 | exact c1' | exact mu | exact ad | exact c2' | exact dv | exact c3' | exact c4' | exact s2 | exact kn) ?_))
    | false =>
      have c3' : Go.Ev.Fn CX 49 [distV 2 0 0 (decide (one.num < 0)) (lim one.num.natAbs) (lim one.den) false [] [], ratV sz nz dz, .int .i64 (P : Int)] (.tup [noB, .int .i64 7]) := c3
      have c4' : Go.Ev.Fn CX 49 [distV 2 0 0 sb nb db false [] [], rv q, .int .i64 (P : Int)] (.tup [noB, .int .i64 7]) := c4
      clear c3 c4 s2
      refine Go.Ev.Fn.intro (fn := Tryz.f13) (body := (Tryz.f13).body.get!) (by kernel_rfl) (by kernel_rfl) (by kernel_rfl) (fun _ => rfl) (Nat.le_of_ble_eq_true (by kernel_rfl)) ?_; unfold Tryz.f13; simp only [Option.get!_some]
      repeat (first | (simp only [go_sem, Nat.reduceEqDiff, Nat.reduceAdd, Nat.reduceSub, Nat.reduceMul, Nat.reduceLeDiff, Nat.reduceLT, reduceIte, reduceCtorEq, Nat.succ_ne_zero, elemsC, Int.reduceToNat, Nat.reducePow, e1]) | (simp (disch := (first | omega | (simp only [AL, List.length_map]; omega))) only [AR, AL, ifT, ifF, take_all, List.length_cons, List.length_nil, Int.reduceToNat, Int.reducePow, Nat.reducePow, e1]) | (refine wk_intro (by kernel_rfl) ?_) | (refine vp_draw (id := 1) (l := []) (by kernel_rfl) ?_) | (refine vp_draw (id := 3) (l := []) (by kernel_rfl) ?_) | (refine vp_draw (id := 4) (l := []) (by kernel_rfl) ?_) | (refine vp_draw (id := 6) (l := []) (by kernel_rfl) ?_) | (refine vf_of (by first | exact i0 | exact cm | exact i1 | exact c1' | exact mu | exact ad | exact c2' | exact dv | exact c3' | exact c4' | exact kn) ?_))
theorem nil_RatM {M : Nat} (h : 1 ≤ M) : RatA (ratV false [] []) 0 M := RatA_mono nil_RatE h
theorem div_self' {m b z : Rat} (hb : 0 < b) : (m + b * z - m) / b = z := by
  have e : m + b * z - m = z * b := by grind
  rw [e]; exact Rat.mul_div_cancel (by grind)
theorem scales_in {P : Nat} (hM : RatA (ratV sm nm dm) mean 1) (hB : RatA (ratV sb nb db) by' 1) (hz : RatA (ratV sz nz dz) z 1) (h1 : nm.length ≤ 1) (h2 : dm.length ≤ 1) (h3 : nb.length ≤ 1) (h4 : db.length ≤ 1) (h5 : nz.length ≤ 1) (h6 : dz.length ≤ 1) (hP : P ≤ 50) (hb : 0 < by') :
    Go.Ev.Fn CX 13 [ratV sm nm dm, ratV sb nb db, ratV sz nz dz, .int .i64 (P : Int)] (.bool true) := by
  have i0 := ref2_Int 0 (by omega)
  have i1 := ref2_Int 1 (by omega)
  have cm := ref2_Cmp hB (RatA_rv (int_szR (n := 0) (by omega))) (by omega) (by omega) (by omega)
  have e1 : decide (cmpR by' ((0 : Int) : Rat) ≤ 0) = false := by rw [cmpR_le]; exact decide_eq_false (Rat.not_le.2 hb)
  have zz := szR_of hz (by omega)
  have zb := szR_of hB (by omega)
  have zm := szR_of hM (by omega)
  have mu := ref2_Mul hB hz (by omega) (by omega) (by omega)
  have zbz := szR_mul zb zz (by omega)
  have ad := ref2_Add hM (RatA_rv zbz) (by omega) (by omega) (by omega)
  have zx := szR_add zm zbz (by omega)
  have dv := ref2_Div hz hB (by omega) (by omega) (by omega)
  have zq := szR_div zz zb (by omega) (by omega)
  have o1 : (0 : Rat) < ((1 : Int) : Rat) := by decide +kernel
  have zo := int_szR (n := 1) (by omega)
  obtain ⟨a, b, okN, fN, w1, w2, w3⟩ := phi_any (P := P) (szR_mono zz (show 1 ≤ 3 by omega)) (by omega)
  have c1 := distE_Cdf (k := 1) (n := 0) (m := 0) (nil_RatM (by omega)) (RatA_mono (RatA_rv zo) (by omega)) (M := 2) (by omega) (by omega) (chk_normal o1) hz (P := P) (by omega) (chance_normal (nil_RatM (by omega)) (RatA_rv zo) (M := 2) (by omega) (by omega) hz (by omega) (by omega) (by
    have e : (z - 0) / ((1 : Int) : Rat) = z := by
      have : ((1 : Int) : Rat) = 1 := rfl
      rw [this, Rat.div_def]
      have i : (1 : Rat)⁻¹ = 1 := by decide +kernel
      rw [i]; grind
    rw [e]; exact fN))
  have c2 := distE_Cdf (k := 1) (n := 0) (m := 0) hM hB (by omega) (by omega) (chk_normal hb) (RatA_rv zx) (P := P) (by omega) (chance_normal hM hB (by omega) (by omega) (RatA_rv zx) (by omega) (by omega) (by rw [div_self' hb]; exact fN))
  have s1 := ref4_Side0 w1 w2 w1 w2 (by omega) (by omega) (by omega) w3 w3
  by_cases hz0 : z ≤ 0
  · have hq0 : z / by' ≤ 0 := by
      have k : z / by' * by' = z := Rat.div_mul_cancel (by grind)
      refine Rat.not_lt.1 fun g => ?_
      have := Rat.mul_pos g hb
      grind
    have c3 := distE_Cdf (k := 2) (n := 0) (m := 0) (RatA_rv zo) (nil_RatM (by omega)) (M := 2) (by omega) (by omega) (chk_expo o1) hz (P := P) (by omega) (chance_expo0 hz (by omega) (by omega) hz0)
    have c4 := distE_Cdf (k := 2) (n := 0) (m := 0) hB (nil_RatM (by omega)) (by omega) (by omega) (chk_expo hb) (RatA_rv zq) (P := P) (by omega) (chance_expo0 (RatA_rv zq) (by omega) (by omega) hq0)
    have z0 : szR 0 1 := szR_zero (by omega)
    have s2 := ref4_Side0 z0 z0 z0 z0 (by omega) (by omega) (by omega) Rat.le_refl Rat.le_refl
    exact scales_walk h1 h2 h3 h4 h5 h6 hP i0 cm e1 i1 mu ad dv c1 c2 c3 c4 s1 s2 knownE14
  · have hz1 : 0 < z := Rat.not_le.1 hz0
    have hq1 : 0 < z / by' := by rw [Rat.div_def]; exact Rat.mul_pos hz1 (Rat.inv_pos.2 hb)
    obtain ⟨l, h, okE, fE, y1, y2, y3⟩ := exp_minus (P := P) (szR_mono zz (show 1 ≤ 3 by omega)) hz1 (by omega)
    have c3 := distE_Cdf (k := 2) (n := 0) (m := 0) (RatA_rv zo) (nil_RatM (by omega)) (M := 2) (by omega) (by omega) (chk_expo o1) hz (P := P) (by omega) (chance_expo (RatA_rv zo) (by omega) (by omega) hz (by omega) (by omega) hz1 y1 y2 (by
      have e : ((1 : Int) : Rat) * z = z := by
        have : ((1 : Int) : Rat) = 1 := rfl
        rw [this, Rat.one_mul]
      rw [e]; exact fE))
    have c4 := distE_Cdf (k := 2) (n := 0) (m := 0) hB (nil_RatM (by omega)) (by omega) (by omega) (chk_expo hb) (RatA_rv zq) (P := P) (by omega) (chance_expo hB (by omega) (by omega) (RatA_rv zq) (by omega) (by omega) hq1 y1 y2 (by
      have e : by' * (z / by') = z := Ex.mul_div _ _ (by grind)
      rw [e]; exact fE))
    have u1 := szR_sub unit_len y2 (by omega)
    have u2 := szR_sub unit_len y1 (by omega)
    have s2 := ref4_Side0 u1 u2 u1 u2 (by omega) (by omega) (by omega) (show 1 - h ≤ 1 - l by grind) (show 1 - h ≤ 1 - l by grind)
    exact scales_walk h1 h2 h3 h4 h5 h6 hP i0 cm e1 i1 mu ad dv c1 c2 c3 c4 s1 s2 knownE14
end
set_option maxRecDepth 100000 in
theorem scales_law (ss0 : List SV) (sh0 : ShpT Tryz.prog 6 24 ss0) (ss1 : List SV) (sh1 : ShpT Tryz.prog 6 24 ss1) (ss2 : List SV) (sh2 : ShpT Tryz.prog 6 24 ss2) (p : Int) (w3 : (Lit.int .i64 p).wf = true) :
    Go.Ev.Fn CX 13 [.agg ss0, .agg ss1, .agg ss2, .int .i64 p] (.bool true) := by
  obtain ⟨sm, nm, dm, rfl, a1, a2, l1, l2⟩ := shp_rat (n := 3) sh0
  obtain ⟨sb, nb, db, rfl, a3, a4, l3, l4⟩ := shp_rat (n := 3) sh1
  obtain ⟨sz, nz, dz, rfl, a5, a6, l5, l6⟩ := shp_rat (n := 3) sh2
  have r3 := wf_int64H w3
  have mx : maxLen ≤ 9223372036854775807 := by decide
  by_cases c : nm.length ≤ 1 ∧ dm.length ≤ 1 ∧ nb.length ≤ 1 ∧ db.length ≤ 1 ∧ nz.length ≤ 1 ∧ dz.length ≤ 1 ∧ 0 ≤ p ∧ p ≤ 50
  · obtain ⟨c1, c2, c3, c4, c5, c6, c7, c8⟩ := c
    obtain ⟨m, hm⟩ : ∃ x : Rat, RatA (ratV sm nm dm) x 1 := ⟨_, sm, nm, dm, rfl, a1, a2, c1, c2, rfl⟩
    obtain ⟨b, hb⟩ : ∃ x : Rat, RatA (ratV sb nb db) x 1 := ⟨_, sb, nb, db, rfl, a3, a4, c3, c4, rfl⟩
    obtain ⟨z, hz⟩ : ∃ x : Rat, RatA (ratV sz nz dz) x 1 := ⟨_, sz, nz, dz, rfl, a5, a6, c5, c6, rfl⟩
    by_cases g : b ≤ 0
    · exact scales_low hb c1 c2 c3 c4 c5 c6 ⟨c7, c8⟩ g
    · obtain ⟨P, rfl⟩ : ∃ P : Nat, p = (P : Int) := ⟨p.toNat, by omega⟩
      exact scales_in hm hb hz c1 c2 c3 c4 c5 c6 (by omega) (Rat.not_le.1 g)
  · exact scales_out (Nat.le_trans l1 mx) (Nat.le_trans l2 mx) (Nat.le_trans l3 mx) (Nat.le_trans l4 mx) (Nat.le_trans l5 mx) (Nat.le_trans l6 mx) r3 (by omega)
end Go.Proofs.YtemnjalaincijaaGreat
