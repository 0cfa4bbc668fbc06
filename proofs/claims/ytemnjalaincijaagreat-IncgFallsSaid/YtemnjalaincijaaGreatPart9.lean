/- Part 9 of the proof: the evaluator, contracts of functions and their plain laws (joined by program). No condition. -/
import Derived.Test.YtemnjalaincijaaGreatPart8
set_option linter.unusedVariables false
set_option linter.unusedSimpArgs false
set_option maxRecDepth 100000
namespace Go.Proofs.YtemnjalaincijaaGreat
open Go.Ev
def evX (x : Rat) (L : Nat) : Rat := if x < 0 then 1 / Ex.E (-x) L else Ex.E x L
def nearF (n d w : Nat) : Nat × Nat := match eRow w (n * 2 ^ w / (d * 2 ^ 14)) (w / 7 + 3) 1 (2 ^ w) (2 ^ w + 1) (2 ^ w) (2 ^ w + 1) with
  | some (A, B) => sqs w 14 A B
  | none => (0, 0)
theorem nearF_ok {n d w g c : Nat} (hg : g = 32794) (hc : c = 32768) (hd : 0 < d) (h : n ≤ 64 * d) (hw : 160 ≤ w) :
    nearS n d w (nearF n d w) ∧ 2 ^ w ≤ (nearF n d w).1 ∧ (nearF n d w).1 < (nearF n d w).2 ∧ (nearF n d w).2 < 2 ^ (w + c) ∧ (nearF n d w).2 ≤ (nearF n d w).1 + w * 2 ^ g ∧
      ∀ x : Rat, x * (d : Rat) = (n : Rat) → ∃ s, ∀ L, s ≤ L → Enc w (nearF n d w).1 (nearF n d w).2 (Ex.E x L) := by
  obtain ⟨A, B, r1, r2, r3, r4, r5, r6, r7, r8, r9⟩ := near_ok hg hc hd h hw
  have e : nearF n d w = sqs w 14 A B := by unfold nearF; rw [r1]
  rw [e]
  have strict : ∀ (k lo hi : Nat), lo ≤ hi → (sqs w (k + 1) lo hi).1 < (sqs w (k + 1) lo hi).2 := by
    intro k
    induction k with
    | zero =>
      intro lo hi h
      show lo * lo / 2 ^ w < hi * hi / 2 ^ w + 1
      exact Nat.lt_succ_of_le (Nat.div_le_div_right (Nat.mul_le_mul h h))
    | succ k ih =>
      intro lo hi h
      exact ih _ _ (Nat.le_succ_of_le (Nat.div_le_div_right (Nat.mul_le_mul h h)))
  exact ⟨⟨A, B, r1, r2, r3, r4, rfl⟩, r5, strict 13 A B r2, r7, r8, r9⟩
theorem exps_Exp1 {s : Bool} {n d : List Nat} {w : Nat} {r1 r2 : Nat} (h : Go.Ev.Fn CX 119 [ratV s n d, .int .i64 (w : Int)] (spanV r1 r2)) :
    Go.Ev.Fn CX 118 [.int .i64 (w : Int), .mem [.bool s, natV n, natV d]] (spanV r1 r2) := by
  refine Go.Ev.Fn.intro (fn := Tryz.f118) (body := (Tryz.f118).body.get!) (by kernel_rfl) (by kernel_rfl) (by kernel_rfl) (fun _ => rfl) (Nat.le_of_ble_eq_true (by kernel_rfl)) ?_; unfold Tryz.f118; simp only [Option.get!_some]
  repeat (first | (simp only [go_sem, Nat.reduceEqDiff, Nat.reduceAdd, Nat.reduceSub, Nat.reduceMul, Nat.reduceLeDiff, Nat.reduceLT, reduceIte, reduceCtorEq, Nat.succ_ne_zero, elemsC, Int.reduceToNat, Nat.reducePow]) | (simp (disch := (first | omega | (simp only [AL, List.length_map]; omega))) only [AR, AL, ifT, ifF, take_all, List.length_cons, List.length_nil, Int.reduceToNat, Int.reducePow, Nat.reducePow]) | (refine wk_intro (by kernel_rfl) ?_) | (refine vf_of (by first | exact h) ?_))
theorem neg_numX {x : Rat} : decide (x.num < 0) = decide (x < 0) := by
  have h := Rat.num_nonneg (q := x)
  refine decide_eq_decide.2 ⟨fun g => ?_, fun g => ?_⟩
  · have : ¬ 0 ≤ x := fun k => absurd (h.2 k) (by omega)
    grind
  · rcases Int.lt_or_le x.num 0 with k | k
    · exact k
    · exact absurd (h.1 k) (by grind)
section
variable {v : SV} {x : Rat} {L P : Nat} {pI : Int}
theorem exp_end {n d : Nat} {neg : Bool} (hn0 : 0 < n) (hd : 0 < d) (h : n ≤ 64 * d) (hd2 : d ≤ 2 ^ 240) (hP : P ≤ 512) (ln : (lim n).length ≤ 1000) (ld : (lim d).length ≤ 1000) :
    ∃ m s0 : Nat, (lim m).length ≤ 5000 ∧ Go.Ev.Fn CX 117 [.int .i64 (P : Int), .int .i64 160, .fn 118 [.mem [.bool neg, natV (lim n), natV (lim d)]]] (ballR (mkRat (m : Int) (2 ^ P)) (mkRat ((m + 1 : Nat) : Int) (2 ^ P))) ∧
      ∀ x : Rat, x * (d : Rat) = (n : Rat) → ∃ s0, ∀ L, s0 ≤ L → Enc P m (m + 1) (if neg then 1 / Ex.E x L else Ex.E x L) := by
  obtain ⟨g, hg⟩ : ∃ g : Nat, g = 32794 := ⟨_, rfl⟩
  obtain ⟨c, hc⟩ : ∃ g : Nat, g = 32768 := ⟨_, rfl⟩
  have ok := fun w (hw : 160 ≤ w) => nearF_ok (n := n) (d := d) (w := w) hg hc hd h hw
  have dR : (0 : Rat) < (d : Rat) := by exact_mod_cast hd
  obtain ⟨q, hq⟩ : ∃ q : Rat, q = (n : Rat) / (d : Rat) := ⟨_, rfl⟩
  have qd : q * (d : Rat) = (n : Rat) := by rw [hq]; exact Rat.div_mul_cancel (by grind)
  have q64 : q ≤ 64 := by
    refine le_by dR ?_
    rw [qd]
    have : ((n : Nat) : Rat) ≤ ((64 * d : Nat) : Rat) := Ex.castle h
    rw [Ex.castmul] at this; exact this
  have cert : ∀ w, 71000000 ≤ w → w < 2 * 71000000 → (nearR neg w (nearF n d w)).1 / 2 ^ (w - P) = ((nearR neg w (nearF n d w)).2 - 1) / 2 ^ (w - P) := by
    intro w hw hw2
    obtain ⟨-, o1, o2, o3, o4, o5⟩ := ok w (by omega)
    obtain ⟨s, hs⟩ := o5 q qd
    have w40 : w ≤ 2 ^ 40 := by omega
    cases neg with
    | false =>
      unfold nearR
      rw [if_neg (by simp)]
      exact cert_pos hn0 hd hd2 qd q64 hP (by omega) o2 o4 hs hw w40
    | true =>
      unfold nearR
      rw [if_pos rfl]
      exact cert_neg hn0 hd hd2 qd q64 hP (by omega) o1 o2 o4 hs hw w40
  have size : ∀ w, 160 ≤ w → w < 2 * 71000000 → P ≤ w → (nearR neg w (nearF n d w)).1 < 2 ^ (w + c) ∧ (nearR neg w (nearF n d w)).2 < 2 ^ (w + c) := by
    intro w hw hw2 hPw
    obtain ⟨-, o1, o2, o3, o4, -⟩ := ok w hw
    cases neg with
    | false =>
      unfold nearR
      rw [if_neg (by simp)]
      exact ⟨by omega, o3⟩
    | true =>
      unfold nearR
      rw [if_pos rfl]
      have Pw : 0 < 2 ^ w := Nat.pow_pos (by omega)
      have e2 : 2 ^ (2 * w) = 2 ^ w * 2 ^ w := by rw [← Nat.pow_add]; congr 1; omega
      have big : 2 ^ w * 4 ≤ 2 ^ (w + c) := by
        rw [show (4 : Nat) = 2 ^ 2 from rfl, ← Nat.pow_add]
        exact Nat.pow_le_pow_right (by omega) (by omega)
      have one : ∀ z : Nat, 2 ^ w ≤ z → 2 ^ (2 * w) / z ≤ 2 ^ w := by
        intro z hz
        refine (Nat.div_le_iff_le_mul (by omega)).2 ?_
        rw [e2]
        have := Nat.mul_le_mul_left (2 ^ w) hz
        omega
      have a := one (nearF n d w).2 (by omega)
      have b := one (nearF n d w).1 o1
      constructor
      · show 2 ^ (2 * w) / (nearF n d w).2 < _
        omega
      · show 2 ^ (2 * w) / (nearF n d w).1 + 1 < _
        omega
  obtain ⟨w, w1, w2, w3, fn⟩ := fix_CertainL (p := P) (sp := 160) (M := 71000000) (f := 118) (caps := [.mem [.bool neg, natV (lim n), natV (lim d)]]) (lo := fun w => (nearR neg w (nearF n d w)).1) (hi := fun w => (nearR neg w (nearF n d w)).2) (by omega) (by omega) (by omega) (by omega) (by omega)
    (fun w hw hw2 => exps_Exp1 (exps_near hd h (by omega) (by omega) ln ld (ok w (by omega)).1))
    (fun w hw hw2 => by
      obtain ⟨z1, z2⟩ := size w (by omega) hw2 (by omega)
      have a := lim_len_pw z1
      have b := lim_len_pw z2
      have m : (nearR neg w (nearF n d w)).1 / 2 ^ (w - P) < 2 ^ (P + c) := by
        refine (Nat.div_lt_iff_lt_mul (Nat.pow_pos (by omega))).2 ?_
        rw [← Nat.pow_add, show P + c + (w - P) = w + c by omega]; exact z1
      have l := lim_len_pw m
      exact ⟨by omega, by omega, by omega⟩)
    cert
  obtain ⟨z1, -⟩ := size w (by omega) w2 (by omega)
  obtain ⟨-, o1, o2, o3, o4, o5⟩ := ok w (by omega)
  obtain ⟨m, hm⟩ : ∃ m, m = (nearR neg w (nearF n d w)).1 / 2 ^ (w - P) := ⟨_, rfl⟩
  have lm : m < 2 ^ (P + c) := by
    rw [hm]
    refine (Nat.div_lt_iff_lt_mul (Nat.pow_pos (by omega))).2 ?_
    rw [← Nat.pow_add, show P + c + (w - P) = w + c by omega]; exact z1
  have ll := lim_len_pw lm
  refine ⟨m, 0, by omega, by rw [hm]; exact fn, fun x hx => ?_⟩
  obtain ⟨s0, hs⟩ := o5 x hx
  refine ⟨s0, fun L hL => ?_⟩
  have en : Enc w (nearR neg w (nearF n d w)).1 (nearR neg w (nearF n d w)).2 (if neg then 1 / Ex.E x L else Ex.E x L) := by
    cases neg with
    | false =>
      unfold nearR
      rw [if_neg (by simp), if_neg (by simp)]
      exact hs L hL
    | true =>
      unfold nearR
      rw [if_pos rfl, if_pos rfl]
      exact (enc_inv (by have : 0 < 2 ^ w := Nat.pow_pos (by omega); omega) (hs L hL)).1
  have pos2 : 0 < (nearR neg w (nearF n d w)).2 := by
    cases neg with
    | false => unfold nearR; rw [if_neg (by simp)]; omega
    | true => unfold nearR; rw [if_pos rfl]; exact Nat.succ_pos _
  have w3' : m = ((nearR neg w (nearF n d w)).2 - 1) / 2 ^ (w - P) := by rw [hm]; exact w3
  generalize (if neg then 1 / Ex.E x L else Ex.E x L) = z at *
  generalize (nearR neg w (nearF n d w)).1 = lo at *
  generalize (nearR neg w (nearF n d w)).2 = hi at *
  have Pw := p2_pos (w - P)
  have e : p2 w = p2 P * p2 (w - P) := by
    have : w = P + (w - P) := by omega
    have e2 : 2 ^ w = 2 ^ P * 2 ^ (w - P) := by rw [← Nat.pow_add]; congr 1
    show ((2 ^ w : Nat) : Rat) = _
    rw [e2]; exact Ex.castmul _ _
  obtain ⟨b1, b2⟩ := en
  rw [e, ← Rat.mul_assoc] at b1 b2
  constructor
  · refine le_by Pw ?_
    have k : m * 2 ^ (w - P) ≤ lo := by rw [hm]; exact Nat.div_mul_le_self _ _
    have k2 := Ex.castle k
    rw [Ex.castmul] at k2
    exact Rat.le_trans k2 b1
  · refine le_by Pw ?_
    have k : hi ≤ (m + 1) * 2 ^ (w - P) := by
      have := Nat.lt_mul_div_succ (hi - 1) (show 0 < 2 ^ (w - P) from Nat.pow_pos (by omega))
      rw [← w3', Nat.mul_comm] at this
      omega
    have k2 := Ex.castle k
    rw [Ex.castmul] at k2
    exact Rat.le_trans b2 k2
theorem exps_Exp (hv : RatA v x L) (hL1 : 1 ≤ L) (hL : L ≤ 100) (hx0 : x ≠ 0) (h1 : -64 ≤ x) (h2 : x ≤ 64) (hd : x.den ≤ 2 ^ 240) (hP : P ≤ 512) (hpI : (pI ≤ 0 ∧ P = 0) ∨ pI = (P : Int)) :
    ∃ m : Nat, (lim m).length ≤ 5000 ∧ Go.Ev.Fn CX 58 [v, .int .i64 pI] (.tup [ballR (mkRat (m : Int) (2 ^ P)) (mkRat ((m + 1 : Nat) : Int) (2 ^ P)), .bool true]) ∧ ∃ s0, ∀ L, s0 ≤ L → Enc P m (m + 1) (evX x L) := by
  have zx := szR_of hv hL1
  have n1 := rat_Norm hv (by omega)
  have im := rat_Int (-64) (by omega)
  have ip := rat_Int 64 (by omega)
  have c1 := rat_Cmp (RatA_rv zx) (RatA_rv (int_szR (n := -64) (by omega))) hL1 (by omega) (by omega)
  have c2 := rat_Cmp (RatA_rv zx) (RatA_rv (int_szR (n := 64) (by omega))) hL1 (by omega) (by omega)
  have zr := rat_Zero (RatA_rv zx) hL1 (by omega)
  rw [decide_eq_false hx0] at zr
  have e1 : decide (cmpR x ((-64 : Int) : Rat) < 0) = false := by rw [cmpR_lt]; exact decide_eq_false (Rat.not_lt.2 h1)
  have e2 : decide (cmpR x ((64 : Int) : Rat) > 0) = false := by rw [cmpR_gt]; exact decide_eq_false (Rat.not_lt.2 h2)
  have dp := x.den_pos
  have dR : (0 : Rat) < (x.den : Rat) := by exact_mod_cast dp
  have nd := Ex.denR x
  have n0 : 0 < x.num.natAbs := by
    have : x.num ≠ 0 := fun e => hx0 (num_zero.1 e)
    omega
  have xm : x.num ≤ 64 * (x.den : Int) ∧ -(64 * (x.den : Int)) ≤ x.num := by
    constructor
    · have m := Rat.mul_le_mul_of_nonneg_right h2 (Rat.le_of_lt dR)
      rw [nd] at m
      have : (x.num : Rat) ≤ ((64 * (x.den : Int) : Int) : Rat) := by rw [Rat.intCast_mul]; exact m
      exact Rat.intCast_le_intCast.1 this
    · have m := Rat.mul_le_mul_of_nonneg_right h1 (Rat.le_of_lt dR)
      rw [nd] at m
      have : ((-(64 * (x.den : Int)) : Int) : Rat) ≤ (x.num : Rat) := by
        rw [Rat.intCast_neg, Rat.intCast_mul]
        have e : -(((64 : Int) : Rat) * ((x.den : Int) : Rat)) = -64 * (x.den : Rat) := by
          have e3 : ((x.den : Int) : Rat) = (x.den : Rat) := rfl
          have e4 : ((64 : Int) : Rat) = 64 := rfl
          rw [e3, e4]; grind
        rw [e]; exact m
      exact Rat.intCast_le_intCast.1 this
  obtain ⟨m, -, lm, fn, en⟩ := exp_end (P := P) (n := x.num.natAbs) (d := x.den) (neg := decide (x.num < 0)) n0 dp (by omega) hd hP (Nat.le_trans zx.1 (by omega)) (Nat.le_trans zx.2 (by omega))
  have x1 : (if (0 : Int) > pI then (0 : Int) else pI) = (P : Int) := by split <;> omega
  have x2 : (if (512 : Int) < (P : Int) then (512 : Int) else (P : Int)) = (P : Int) := if_neg (by omega)
  refine ⟨m, lm, ?_, ?_⟩
  · clear en nd xm zx h1 h2 hx0 hpI
    obtain ⟨s, n, d, rfl, -⟩ := hv
    generalize mkRat (m : Int) (2 ^ P) = q1 at *
    generalize mkRat ((m + 1 : Nat) : Int) (2 ^ P) = q2 at *
    generalize cmpR x ((-64 : Int) : Rat) = y1 at *
    generalize cmpR x ((64 : Int) : Rat) = y2 at *
    refine Go.Ev.Fn.intro (fn := Tryz.f58) (body := (Tryz.f58).body.get!) (by kernel_rfl) (by kernel_rfl) (by kernel_rfl) (fun _ => rfl) (Nat.le_of_ble_eq_true (by kernel_rfl)) ?_; unfold Tryz.f58; simp only [Option.get!_some]
    repeat (first | (simp only [go_sem, Nat.reduceEqDiff, Nat.reduceAdd, Nat.reduceSub, Nat.reduceMul, Nat.reduceLeDiff, Nat.reduceLT, reduceIte, reduceCtorEq, Nat.succ_ne_zero, elemsC, Int.reduceToNat, Nat.reducePow, x1, x2, e1, e2, List.size_toArray, Array.size_empty]) | (simp (disch := (first | omega | (simp only [AL, List.length_map]; omega))) only [AR, AL, ifT, ifF, take_all, List.length_cons, List.length_nil, Int.reduceToNat, Int.reducePow, Nat.reducePow, x1, x2, e1, e2, List.size_toArray, Array.size_empty]) | (refine wk_intro (by kernel_rfl) ?_) | (refine vp_draw (id := 2) (l := []) (by kernel_rfl) ?_) | (refine vf_of (by first | exact n1 | exact im | exact c1 | exact ip | exact c2 | exact zr | exact fn) ?_))
  · by_cases hneg : x.num < 0
    · have xneg : x < 0 := by
        have := neg_numX (x := x)
        rw [decide_eq_true hneg] at this
        exact of_decide_eq_true this.symm
      obtain ⟨s0, hs⟩ := en (-x) (by
        have e : (x.num.natAbs : Int) = -x.num := by omega
        have e2 : ((x.num.natAbs : Nat) : Rat) = ((x.num.natAbs : Int) : Rat) := rfl
        rw [e2, e, Rat.intCast_neg, ← nd]; grind)
      rw [decide_eq_true hneg] at hs
      refine ⟨s0, fun L hL => ?_⟩
      unfold evX
      rw [if_pos xneg]
      exact hs L hL
    · have xpos : ¬ x < 0 := by
        have := neg_numX (x := x)
        rw [decide_eq_false hneg] at this
        exact of_decide_eq_false this.symm
      obtain ⟨s0, hs⟩ := en x (by
        have e : (x.num.natAbs : Int) = x.num := by omega
        have e2 : ((x.num.natAbs : Nat) : Rat) = ((x.num.natAbs : Int) : Rat) := rfl
        rw [e2, e, ← nd])
      rw [decide_eq_false hneg] at hs
      refine ⟨s0, fun L hL => ?_⟩
      unfold evX
      rw [if_neg xpos]
      exact hs L hL
end
end Go.Proofs.YtemnjalaincijaaGreat
namespace Go.Proofs.YtemnjalaincijaaGreat
open Go.Ev
theorem tm_neg (y : Rat) : ∀ m, Ex.tm (-y) m = if m % 2 = 1 then -Ex.tm y m else Ex.tm y m
  | 0 => rfl
  | m + 1 => by
    have ih := tm_neg y m
    show Ex.tm (-y) m * -y / ((m + 1 : Nat) : Rat) = if (m + 1) % 2 = 1 then -(Ex.tm y m * y / ((m + 1 : Nat) : Rat)) else Ex.tm y m * y / ((m + 1 : Nat) : Rat)
    rw [Rat.div_def, Rat.div_def]
    by_cases h : m % 2 = 1
    · rw [if_pos h] at ih
      rw [ih, if_neg (by omega)]; grind
    · rw [if_neg h] at ih
      rw [ih, if_pos (by omega)]; grind
theorem tm_negB {y : Rat} (h : 0 ≤ y) (m : Nat) : Ex.Bdd (Ex.tm (-y) m) (Ex.tm y m) := by
  have n := Ex.tm_nn h m
  rw [tm_neg]
  by_cases g : m % 2 = 1
  · rw [if_pos g]; constructor <;> grind
  · rw [if_neg g]; constructor <;> grind
theorem pe_negB {y : Rat} (h : 0 ≤ y) (N : Nat) : ∀ c, Ex.Bdd (Ex.E (-y) c * Ex.E y N - Ex.pe (-y) y N c) (Ex.E y c * Ex.E y N - Ex.pe y y N c)
  | 0 => by
    show Ex.Bdd (0 * _ - 0) (0 * _ - 0)
    rw [Rat.zero_mul]
    exact ⟨by decide +kernel, by decide +kernel⟩
  | c + 1 => by
    have ih := pe_negB h N c
    have m := Ex.E_mono h (Nat.sub_le N c)
    have d : Ex.Bdd (Ex.E y N - Ex.E y (N - c)) (Ex.E y N - Ex.E y (N - c)) := by
      generalize Ex.E y N = a at *
      generalize Ex.E y (N - c) = b at *
      clear ih
      constructor <;> grind
    have t := Ex.Bdd_add ih (Ex.Bdd_mul (tm_negB h c) d)
    have e1 : Ex.E (-y) (c + 1) * Ex.E y N - Ex.pe (-y) y N (c + 1) = Ex.E (-y) c * Ex.E y N - Ex.pe (-y) y N c + Ex.tm (-y) c * (Ex.E y N - Ex.E y (N - c)) := by
      show (Ex.E (-y) c + Ex.tm (-y) c) * Ex.E y N - (Ex.pe (-y) y N c + Ex.tm (-y) c * Ex.E y (N - c)) = _
      grind
    have e2 : Ex.E y (c + 1) * Ex.E y N - Ex.pe y y N (c + 1) = Ex.E y c * Ex.E y N - Ex.pe y y N c + Ex.tm y c * (Ex.E y N - Ex.E y (N - c)) := by
      show (Ex.E y c + Ex.tm y c) * Ex.E y N - (Ex.pe y y N c + Ex.tm y c * Ex.E y (N - c)) = _
      grind
    rw [e1, e2]; exact t
theorem E_inv {y : Rat} (h : 0 ≤ y) {L : Nat} (h1 : 1 ≤ L) (h2 : (y + y) + (y + y) ≤ ((L + 1 : Nat) : Rat)) : Ex.Bdd (Ex.E (-y) L - 1 / Ex.E y L) (2 * Ex.tm (y + y) L) := by
  have a := pe_negB h L L
  rw [Ex.pe_full, Ex.pe_full, show -y + y = 0 by grind] at a
  obtain ⟨k, rfl⟩ : ∃ k, L = k + 1 := ⟨L - 1, by omega⟩
  rw [Ex.E_zero] at a
  have b := Ex.E_add_ge h h (k + 1) (k + 1)
  have c := Ex.E_tail_le (L := k + 1 + (k + 1)) (show 0 ≤ y + y by grind) h2
  have one := E_one h h1
  have iv : Ex.E y (k + 1) * (1 / Ex.E y (k + 1)) = 1 := Ex.mul_div _ 1 (by grind)
  have i0 : 0 ≤ 1 / Ex.E y (k + 1) := Ex.div_nn (by decide) (by grind)
  have i1 : 1 / Ex.E y (k + 1) ≤ 1 := by
    have := Rat.mul_le_mul_of_nonneg_right one i0
    rw [iv, Rat.one_mul] at this; exact this
  generalize 1 / Ex.E y (k + 1) = i at *
  have bi : Ex.Bdd i 1 := ⟨by grind, i1⟩
  have m := Ex.Bdd_mul (Ex.Bdd_mono a (show _ ≤ 2 * Ex.tm (y + y) (k + 1) by grind)) bi
  rw [Rat.mul_one] at m
  have e : (Ex.E (-y) (k + 1) * Ex.E y (k + 1) - 1) * i = Ex.E (-y) (k + 1) - i := by
    have : (Ex.E (-y) (k + 1) * Ex.E y (k + 1) - 1) * i = Ex.E (-y) (k + 1) * (Ex.E y (k + 1) * i) - i := by grind
    rw [this, iv, Rat.mul_one]
  rw [e] at m; exact m
theorem E_cut {y : Rat} (h : 0 ≤ y) {M : Nat} : ∀ k, Ex.Bdd (Ex.E (-y) (M + k) - Ex.E (-y) M) (Ex.E y (M + k) - Ex.E y M)
  | 0 => by rw [Nat.add_zero, Rat.sub_self, Rat.sub_self]; exact ⟨by decide +kernel, by decide +kernel⟩
  | k + 1 => by
    have ih := E_cut h (M := M) k
    have t := Ex.Bdd_add ih (tm_negB h (M + k))
    have e1 : Ex.E (-y) (M + (k + 1)) - Ex.E (-y) M = Ex.E (-y) (M + k) - Ex.E (-y) M + Ex.tm (-y) (M + k) := by
      show Ex.E (-y) (M + k) + Ex.tm (-y) (M + k) - _ = _
      grind
    have e2 : Ex.E y (M + (k + 1)) - Ex.E y M = Ex.E y (M + k) - Ex.E y M + Ex.tm y (M + k) := by
      show Ex.E y (M + k) + Ex.tm y (M + k) - _ = _
      grind
    rw [e1, e2]; exact t
theorem E_near {y e : Rat} (h : 0 ≤ y) (h1 : y + y ≤ 1) (he : 0 < e) (M : Nat) : ∃ s, ∀ L, s ≤ L → Ex.Bdd (Ex.E (-y) M - 1 / Ex.E y L) (2 * Ex.tm y M + e) := by
  obtain ⟨N, hN⟩ := Ex.tm_small (show 0 ≤ y + y by grind) he
  refine ⟨N + M + 1, fun L hL => ?_⟩
  obtain ⟨n1, n2⟩ := hN L (by omega)
  have a := E_inv h (show 1 ≤ L by omega) n1
  obtain ⟨k, rfl⟩ : ∃ k, L = M + k := ⟨L - M, by omega⟩
  have b := E_cut h (M := M) k
  have c1 : ((1 : Nat) : Rat) ≤ ((M + 1 : Nat) : Rat) := Ex.castle (by omega)
  have c := Ex.E_tail_le (L := M + k) h (N := M) (Rat.le_trans h1 c1)
  obtain ⟨a1, a2⟩ := a
  obtain ⟨b1, b2⟩ := b
  constructor <;> grind
def EncZ (w : Nat) (a b : Int) (q : Rat) : Prop := (a : Rat) ≤ q * p2 w ∧ q * p2 w ≤ (b : Rat)
def nRow (w Y1 Y2 : Nat) : Nat → Nat → Nat → Nat → Int → Int → Option (Int × Int)
  | 0, _, _, _, _, _ => none
  | f + 1, i, t1, t2, s1, s2 =>
    if cdv (cdv (t2 * Y2) (2 ^ w)) i ≤ 2 then some ((if i % 2 = 1 then s1 - (cdv (cdv (t2 * Y2) (2 ^ w)) i : Nat) else s1 + (t1 * Y1 / 2 ^ w / i : Nat)) - 4, (if i % 2 = 1 then s2 - (t1 * Y1 / 2 ^ w / i : Nat) else s2 + (cdv (cdv (t2 * Y2) (2 ^ w)) i : Nat)) + 4)
    else nRow w Y1 Y2 f (i + 1) (t1 * Y1 / 2 ^ w / i) (cdv (cdv (t2 * Y2) (2 ^ w)) i) (if i % 2 = 1 then s1 - (cdv (cdv (t2 * Y2) (2 ^ w)) i : Nat) else s1 + (t1 * Y1 / 2 ^ w / i : Nat)) (if i % 2 = 1 then s2 - (t1 * Y1 / 2 ^ w / i : Nat) else s2 + (cdv (cdv (t2 * Y2) (2 ^ w)) i : Nat))
def nInv (w i t1 t2 : Nat) (s1 s2 : Int) : Prop := 1 ≤ i ∧ t1 ≤ t2 ∧ t2 ≤ 2 ^ w ∧ s1 ≤ s2 ∧ (2 ^ w : Nat) + (t2 : Int) ≤ 2 * s1 + 4 * (i : Int) ∧ 2 * s2 + (t2 : Int) ≤ 3 * (2 ^ w : Nat) + 4 * (i : Int)
theorem nInv_0 (w : Nat) : nInv w 1 (2 ^ w) (2 ^ w) (2 ^ w : Nat) (2 ^ w : Nat) := by
  refine ⟨by omega, by omega, by omega, by omega, by omega, by omega⟩
theorem nStep_le {w Y2 i t2 : Nat} (hY : 4 * Y2 ≤ 2 ^ w) (hi : 1 ≤ i) : 4 * cdv (cdv (t2 * Y2) (2 ^ w)) i ≤ t2 + 3 := by
  have P : 0 < 2 ^ w := Nat.pow_pos (by omega)
  have a := cdv_self (cdv (t2 * Y2) (2 ^ w)) hi
  have b : cdv (t2 * Y2) (2 ^ w) ≤ (t2 + 3) / 4 := by
    refine cdv_le P ?_
    have m := Nat.mul_le_mul_left t2 hY
    have h : t2 ≤ (t2 + 3) / 4 * 4 := by omega
    have m2 := Nat.mul_le_mul_right (2 ^ w) h
    have e1 : t2 * (4 * Y2) = 4 * (t2 * Y2) := by rw [Nat.mul_left_comm]
    have e2 : (t2 + 3) / 4 * 4 * 2 ^ w = 4 * ((t2 + 3) / 4 * 2 ^ w) := by rw [Nat.mul_comm _ 4, Nat.mul_assoc]
    rw [e1] at m
    rw [e2] at m2
    omega
  omega
theorem nInv_step {w Y1 Y2 i t1 t2 : Nat} {s1 s2 : Int} (hY : 4 * Y2 ≤ 2 ^ w) (h12 : Y1 ≤ Y2) (h : nInv w i t1 t2 s1 s2) :
    nInv w (i + 1) (t1 * Y1 / 2 ^ w / i) (cdv (cdv (t2 * Y2) (2 ^ w)) i) (if i % 2 = 1 then s1 - (cdv (cdv (t2 * Y2) (2 ^ w)) i : Nat) else s1 + (t1 * Y1 / 2 ^ w / i : Nat)) (if i % 2 = 1 then s2 - (t1 * Y1 / 2 ^ w / i : Nat) else s2 + (cdv (cdv (t2 * Y2) (2 ^ w)) i : Nat)) := by
  obtain ⟨h1, h2, h3, h4, h5, h6⟩ := h
  have P : 0 < 2 ^ w := Nat.pow_pos (by omega)
  have st := nStep_le (t2 := t2) hY h1
  have u12 : t1 * Y1 / 2 ^ w / i ≤ cdv (cdv (t2 * Y2) (2 ^ w)) i := div_le_cdv h1 (div_le_cdv P (Nat.mul_le_mul h2 h12))
  generalize t1 * Y1 / 2 ^ w / i = u1 at *
  generalize cdv (cdv (t2 * Y2) (2 ^ w)) i = u2 at *
  unfold nInv
  generalize 2 ^ w = T at *
  by_cases g : i % 2 = 1
  · rw [if_pos g, if_pos g]
    refine ⟨by omega, u12, by omega, by omega, by omega, by omega⟩
  · rw [if_neg g, if_neg g]
    refine ⟨by omega, u12, by omega, by omega, by omega, by omega⟩
theorem nRow_end {w Y1 Y2 : Nat} (hY : 4 * Y2 ≤ 2 ^ w) (h12 : Y1 ≤ Y2) : ∀ (m f i t1 t2 : Nat) (s1 s2 : Int), nInv w i t1 t2 s1 s2 → t2 ≤ 4 ^ m + 1 → m + 2 ≤ f → ∃ A B, nRow w Y1 Y2 f i t1 t2 s1 s2 = some (A, B) ∧ A ≤ B ∧ (2 ^ w : Nat) ≤ 2 * A + 4 * (i + m + 4 : Nat) ∧ 2 * B ≤ 3 * (2 ^ w : Nat) + 4 * (i + m + 5 : Nat) := by
  intro m
  induction m with
  | zero =>
    intro f i t1 t2 s1 s2 h ht hf
    obtain ⟨f, rfl⟩ : ∃ j, f = j + 1 := ⟨f - 1, by omega⟩
    have st := nStep_le (t2 := t2) hY h.1
    have iv := nInv_step hY h12 h
    have : 4 ^ 0 = 1 := rfl
    rw [nRow, if_pos (by omega)]
    obtain ⟨-, -, -, q4, q5, q6⟩ := iv
    refine ⟨_, _, rfl, by omega, by omega, by omega⟩
  | succ m ih =>
    intro f i t1 t2 s1 s2 h ht hf
    obtain ⟨f, rfl⟩ : ∃ j, f = j + 1 := ⟨f - 1, by omega⟩
    have st := nStep_le (t2 := t2) hY h.1
    have iv := nInv_step hY h12 h
    have e4 : 4 ^ (m + 1) = 4 ^ m * 4 := Nat.pow_succ _ _
    rw [nRow]
    by_cases g : cdv (cdv (t2 * Y2) (2 ^ w)) i ≤ 2
    · rw [if_pos g]
      obtain ⟨-, -, -, q4, q5, q6⟩ := iv
      refine ⟨_, _, rfl, by omega, by omega, by omega⟩
    · rw [if_neg g]
      obtain ⟨A, B, r1, r2, r3, r4⟩ := ih f (i + 1) _ _ _ _ iv (by omega) (by omega)
      exact ⟨A, B, r1, r2, by omega, by omega⟩
theorem castZ (a b : Int) : ((a + b : Int) : Rat) = (a : Rat) + (b : Rat) := Rat.intCast_add a b
theorem castZs (a b : Int) : ((a - b : Int) : Rat) = (a : Rat) - (b : Rat) := Rat.intCast_sub a b
theorem castZn (n : Nat) : (((n : Nat) : Int) : Rat) = (n : Rat) := rfl
theorem nRow_enc {w Y1 Y2 : Nat} {y : Rat} (hy : Enc w Y1 Y2 y) (hy1 : (y + y) + (y + y) ≤ 1) : ∀ (f i t1 t2 : Nat) (s1 s2 A B : Int), nRow w Y1 Y2 f (i + 1) t1 t2 s1 s2 = some (A, B) → Enc w t1 t2 (Ex.tm y i) → EncZ w s1 s2 (Ex.E (-y) (i + 1)) → ∃ s, ∀ L, s ≤ L → EncZ w A B (1 / Ex.E y L) := by
  have y0 := enc_nonneg hy
  have P := p2_pos w
  intro f
  induction f with
  | zero => intro i t1 t2 s1 s2 A B h; cases h
  | succ f ih =>
    intro i t1 t2 s1 s2 A B h ht hs
    have e1 := enc_byN (n := 1) (m := i + 1) (by omega) (enc_prodN ht hy)
    have e2 : Ex.tm y i * y * ((1 : Nat) : Rat) / ((i + 1 : Nat) : Rat) = Ex.tm y (i + 1) := by
      have : ((1 : Nat) : Rat) = 1 := rfl
      rw [this, Rat.mul_one]; rfl
    rw [e2, Nat.mul_one, Nat.mul_one] at e1
    have e3 : EncZ w (if (i + 1) % 2 = 1 then s1 - (cdv (cdv (t2 * Y2) (2 ^ w)) (i + 1) : Nat) else s1 + (t1 * Y1 / 2 ^ w / (i + 1) : Nat)) (if (i + 1) % 2 = 1 then s2 - (t1 * Y1 / 2 ^ w / (i + 1) : Nat) else s2 + (cdv (cdv (t2 * Y2) (2 ^ w)) (i + 1) : Nat)) (Ex.E (-y) (i + 1 + 1)) := by
      show EncZ w _ _ (Ex.E (-y) (i + 1) + Ex.tm (-y) (i + 1))
      rw [tm_neg]
      obtain ⟨k1, k2⟩ := hs
      obtain ⟨k3, k4⟩ := e1
      by_cases g : (i + 1) % 2 = 1
      · rw [if_pos g, if_pos g, if_pos g]
        unfold EncZ
        rw [castZs, castZs, castZn, castZn]
        constructor <;> grind
      · rw [if_neg g, if_neg g, if_neg g]
        unfold EncZ
        rw [castZ, castZ, castZn, castZn]
        constructor <;> grind
    rw [nRow] at h
    generalize (if (i + 1) % 2 = 1 then s1 - (cdv (cdv (t2 * Y2) (2 ^ w)) (i + 1) : Nat) else s1 + (t1 * Y1 / 2 ^ w / (i + 1) : Nat)) = z1 at *
    generalize (if (i + 1) % 2 = 1 then s2 - (t1 * Y1 / 2 ^ w / (i + 1) : Nat) else s2 + (cdv (cdv (t2 * Y2) (2 ^ w)) (i + 1) : Nat)) = z2 at *
    by_cases g : cdv (cdv (t2 * Y2) (2 ^ w)) (i + 1) ≤ 2
    · rw [if_pos g] at h
      simp only [Option.some.injEq, Prod.mk.injEq] at h
      obtain ⟨rfl, rfl⟩ := h
      obtain ⟨e, he, hep⟩ : ∃ e : Rat, 0 < e ∧ e * p2 w = 1 := ⟨1 / p2 w, by rw [Rat.div_def, Rat.one_mul]; exact Rat.inv_pos.2 P, Rat.div_mul_cancel (by grind)⟩
      obtain ⟨s, hs⟩ := E_near y0 (show y + y ≤ 1 by grind) he (i + 1 + 1)
      refine ⟨s, fun L hL => ?_⟩
      obtain ⟨n1, n2⟩ := hs L hL
      have u2 : ((cdv (cdv (t2 * Y2) (2 ^ w)) (i + 1) : Nat) : Rat) ≤ 2 := Ex.castle g
      have tn := Ex.tm_nn y0 (i + 1)
      have ts := Ex.tm_succ y (i + 1)
      have tn2 := Ex.tm_nn y0 (i + 1 + 1)
      have half : 2 * Ex.tm y (i + 1 + 1) ≤ Ex.tm y (i + 1) := by
        have c1 : ((2 : Nat) : Rat) ≤ ((i + 1 + 1 : Nat) : Rat) := Ex.castle (by omega)
        have m1 := Rat.mul_le_mul_of_nonneg_right c1 tn2
        have m2 := Rat.mul_le_mul_of_nonneg_right (show y ≤ 1 by grind) tn
        rw [ts, show ((2 : Nat) : Rat) = 2 from rfl] at m1
        grind
      have b := Rat.mul_le_mul_of_nonneg_right half (Rat.le_of_lt P)
      have b2 := Rat.le_trans e1.2 u2
      obtain ⟨k1, k2⟩ := e3
      have m1 := Rat.mul_le_mul_of_nonneg_right n1 (Rat.le_of_lt P)
      have m2 := Rat.mul_le_mul_of_nonneg_right n2 (Rat.le_of_lt P)
      unfold EncZ
      rw [castZ, castZs, show ((4 : Int) : Rat) = 4 from rfl]
      generalize 1 / Ex.E y L = v at *
      generalize Ex.tm y (i + 1 + 1) = a at *
      generalize Ex.tm y (i + 1) = a' at *
      generalize Ex.E (-y) (i + 1 + 1) = c at *
      clear e1 e2 hs ih ts tn tn2 half n1 n2 hy hy1
      constructor <;> grind
    · rw [if_neg g] at h
      exact ih (i + 1) _ _ _ _ A B h e1 e3
def sqn (w : Nat) : Nat → Nat → Nat → Nat × Nat
  | 0, a, b => (a, b)
  | k + 1, a, b => sqn w k (a * a / 2 ^ w) (cdv (b * b) (2 ^ w))
theorem sqn_enc {w : Nat} : ∀ (k lo hi : Nat) (q : Rat), Enc w lo hi q → Enc w (sqn w k lo hi).1 (sqn w k lo hi).2 (q ^ 2 ^ k)
  | 0, lo, hi, q, h => by
    rw [Nat.pow_zero, Rat.pow_succ, Rat.pow_zero, Rat.one_mul]; exact h
  | k + 1, lo, hi, q, h => by
    have ih := sqn_enc k _ _ (q * q) (enc_prodN h h)
    have e : q ^ 2 ^ (k + 1) = (q * q) ^ 2 ^ k := by
      rw [Nat.pow_succ, Nat.mul_two, Ex.pow_plus, Ex.mul_powR]
    rw [e]; exact ih
theorem sqn_step {w lo hi c : Nat} (h1 : lo ≤ hi) (h2 : hi ≤ 2 ^ (w + c)) : lo * lo / 2 ^ w ≤ cdv (hi * hi) (2 ^ w) ∧ cdv (hi * hi) (2 ^ w) ≤ 2 ^ (w + (c + c)) :=
  ⟨div_le_cdv (Nat.pow_pos (by omega)) (Nat.mul_le_mul h1 h1), by have := prod_le (w := w) h2 h2; rw [show w + c + c = w + (c + c) by omega] at this; exact this⟩
theorem inv_pow {q : Rat} (h : q ≠ 0) : ∀ n : Nat, (1 / q) ^ n = 1 / q ^ n
  | 0 => by rw [Rat.pow_zero, Rat.pow_zero]; decide +kernel
  | n + 1 => by
    rw [Rat.pow_succ, Rat.pow_succ, inv_pow h n, Rat.div_def, Rat.div_def, Rat.div_def, Rat.inv_mul_rev]
    grind
theorem inv_far {y x : Rat} {w j s1 A B : Nat} (hj : 0 < j) (h0 : 0 ≤ y) (hx : (j : Rat) * y = x) (h : ∀ L, s1 ≤ L → Enc w A B ((1 / Ex.E y L) ^ j)) : ∃ s, ∀ L, s ≤ L → Enc w A B (1 / Ex.E x L) := by
  refine ⟨j * (s1 + 1) + 1, fun L hL => ?_⟩
  have k1 : s1 + 1 ≤ j * (s1 + 1) := Nat.le_mul_of_pos_left _ hj
  have PR := p2_pos w
  have u1 := Ex.E_pow_le h0 (s1 + 1) j
  have u2 := Ex.E_pow_ge h0 (show 0 < L by omega) j
  rw [hx] at u1 u2
  have x0 : 0 ≤ x := by rw [← hx]; exact Rat.mul_nonneg (Ex.nat_nn j) h0
  have m := Ex.E_mono x0 hL
  have a1 := (h (s1 + 1) (by omega)).2
  have a2 := (h L (by omega)).1
  have o1 := E_one h0 (show 1 ≤ s1 + 1 by omega)
  have o2 := E_one h0 (show 1 ≤ L by omega)
  have o3 := E_one x0 (show 1 ≤ L by omega)
  rw [inv_pow (by grind)] at a1 a2
  have anti : ∀ p q : Rat, 0 < p → p ≤ q → 1 / q ≤ 1 / p := by
    intro p q hp hpq
    have i1 : p * (1 / p) = 1 := Ex.mul_div _ 1 (by grind)
    have i2 : q * (1 / q) = 1 := Ex.mul_div _ 1 (by grind)
    have n1 : 0 ≤ 1 / p := Ex.div_nn (by decide) hp
    have n2 : 0 ≤ 1 / q := Ex.div_nn (by decide) (by grind)
    have m1 := Rat.mul_le_mul_of_nonneg_right hpq (Rat.mul_nonneg n1 n2)
    have e1 : p * (1 / p * (1 / q)) = 1 / q := by rw [← Rat.mul_assoc, i1, Rat.one_mul]
    have e2 : q * (1 / p * (1 / q)) = 1 / p := by rw [Rat.mul_comm (1 / p), ← Rat.mul_assoc, i2, Rat.one_mul]
    rw [e1, e2] at m1; exact m1
  have pw : (1 : Rat) ≤ Ex.E y (s1 + 1) ^ j := by
    have := pow_mono (a := 1) (by decide) o1 j
    have e : ∀ n : Nat, (1 : Rat) ^ n = 1 := by
      intro n
      induction n with
      | zero => rfl
      | succ n ih => rw [Rat.pow_succ, ih, Rat.one_mul]
    rw [e] at this; exact this
  refine ⟨Rat.le_trans a2 (Rat.mul_le_mul_of_nonneg_right (anti _ _ (by grind) u2) (Rat.le_of_lt PR)), Rat.le_trans (Rat.mul_le_mul_of_nonneg_right (anti _ _ (by grind) (Rat.le_trans u1 m)) (Rat.le_of_lt PR)) a1⟩
end Go.Proofs.YtemnjalaincijaaGreat
namespace Go.Proofs.YtemnjalaincijaaGreat
open Go.Ev
def tk (y : Rat) (k0 : Nat) : Nat → Rat
  | 0 => 1
  | j + 1 => tk y k0 j * y * ((1 : Nat) : Rat) / ((k0 + 2 * j : Nat) : Rat)
def sk (y : Rat) (k0 : Nat) : Nat → Rat
  | 0 => 0
  | j + 1 => sk y k0 j + tk y k0 j
section
variable {y : Rat} {k0 : Nat}
theorem tk_step (hk : 1 ≤ k0) (j : Nat) : ((k0 + 2 * j : Nat) : Rat) * tk y k0 (j + 1) = tk y k0 j * y := by
  have c : (0 : Rat) < ((k0 + 2 * j : Nat) : Rat) := Ex.castlt (a := 0) (by omega)
  show _ * (tk y k0 j * y * ((1 : Nat) : Rat) / _) = _
  rw [Ex.mul_div _ _ (by grind), show ((1 : Nat) : Rat) = 1 from rfl, Rat.mul_one]
theorem tk_nn (hk : 1 ≤ k0) (h : 0 ≤ y) : ∀ j, 0 ≤ tk y k0 j
  | 0 => by show (0 : Rat) ≤ 1; decide
  | j + 1 => by
    have ih := tk_nn hk h j
    exact Ex.div_nn (Rat.mul_nonneg (Rat.mul_nonneg ih h) (Ex.nat_nn 1)) (Ex.castlt (a := 0) (by omega))
theorem tk_half (hk : 1 ≤ k0) (h : 0 ≤ y) {j : Nat} (g : y + y ≤ ((k0 + 2 * j : Nat) : Rat)) : tk y k0 (j + 1) + tk y k0 (j + 1) ≤ tk y k0 j := by
  have c : (0 : Rat) < ((k0 + 2 * j : Nat) : Rat) := Ex.castlt (a := 0) (by omega)
  have e := tk_step (y := y) hk j
  have n := tk_nn hk h j
  refine le_by c ?_
  have m := Rat.mul_le_mul_of_nonneg_left g n
  have e2 : (tk y k0 (j + 1) + tk y k0 (j + 1)) * ((k0 + 2 * j : Nat) : Rat) = ((k0 + 2 * j : Nat) : Rat) * tk y k0 (j + 1) + ((k0 + 2 * j : Nat) : Rat) * tk y k0 (j + 1) := by grind
  rw [e2, e]
  grind
theorem sk_rest (hk : 1 ≤ k0) (h : 0 ≤ y) {i : Nat} (g : y + y ≤ ((k0 + 2 * i : Nat) : Rat)) : ∀ m, sk y k0 (i + 1 + m) + tk y k0 (i + m) ≤ sk y k0 (i + 1) + tk y k0 i
  | 0 => Rat.le_refl
  | m + 1 => by
    have ih := sk_rest hk h g m
    have hf := tk_half (j := i + m) hk h (Rat.le_trans g (Ex.castle (by omega)))
    show sk y k0 (i + 1 + m) + tk y k0 (i + 1 + m) + tk y k0 (i + (m + 1)) ≤ _
    rw [show i + 1 + m = i + m + 1 by omega] at *
    rw [show i + (m + 1) = i + m + 1 by omega]
    grind
theorem sk_up (hk : 1 ≤ k0) (h : 0 ≤ y) {i L : Nat} (g : i ≤ L) : sk y k0 i ≤ sk y k0 L := by
  obtain ⟨m, rfl⟩ := Nat.exists_eq_add_of_le g
  clear g
  induction m with
  | zero => exact Rat.le_refl
  | succ m ih =>
    have := tk_nn hk h (i + m)
    show _ ≤ sk y k0 (i + m) + tk y k0 (i + m)
    grind
theorem sk_top (hk : 1 ≤ k0) (h : 0 ≤ y) {i L : Nat} (g : y + y ≤ ((k0 + 2 * i : Nat) : Rat)) : sk y k0 L ≤ sk y k0 (i + 1) + tk y k0 i := by
  have n := tk_nn hk h i
  rcases Nat.le_total L (i + 1) with e | e
  · have := sk_up hk h e
    grind
  · obtain ⟨m, rfl⟩ := Nat.exists_eq_add_of_le e
    have := sk_rest hk h g m
    have := tk_nn hk h (i + m)
    grind
theorem tk_big (hk : 1 ≤ k0) (h : 0 ≤ y) {c : Nat} (hc : (c : Rat) ≤ y) (hc2 : y < ((c + 1 : Nat) : Rat)) : ∀ j, ((k0 + 2 * j : Nat) : Rat) < y + y → 1 ≤ tk y k0 j * p2 ((k0 + 2 * j + 1 - c) / 2)
  | 0, g => by
    show 1 ≤ 1 * p2 _
    rw [Rat.one_mul]
    have : 1 ≤ 2 ^ ((k0 + 2 * 0 + 1 - c) / 2) := Nat.pow_pos (by omega)
    exact Ex.castle this
  | j + 1, g => by
    have g0 : ((k0 + 2 * j : Nat) : Rat) < y + y := by
      have : ((k0 + 2 * j : Nat) : Rat) ≤ ((k0 + 2 * (j + 1) : Nat) : Rat) := Ex.castle (by omega)
      grind
    have ih := tk_big hk h hc hc2 j g0
    have K : (0 : Rat) < ((k0 + 2 * j : Nat) : Rat) := Ex.castlt (a := 0) (by omega)
    have e := tk_step (y := y) hk j
    have n := tk_nn hk h j
    have n1 := tk_nn hk h (j + 1)
    by_cases b : k0 + 2 * j ≤ c
    · have b' : ((k0 + 2 * j : Nat) : Rat) ≤ y := Rat.le_trans (Ex.castle b) hc
      have up : tk y k0 j ≤ tk y k0 (j + 1) := by
        refine le_by K ?_
        rw [Rat.mul_comm (tk y k0 (j + 1)), e]
        exact Rat.mul_le_mul_of_nonneg_left b' n
      have p : p2 ((k0 + 2 * j + 1 - c) / 2) ≤ p2 ((k0 + 2 * (j + 1) + 1 - c) / 2) := Ex.castle (Nat.pow_le_pow_right (by omega) (by omega))
      exact Rat.le_trans ih (mul_le up p n1 (Rat.le_of_lt (p2_pos _)))
    · have up : tk y k0 j ≤ 2 * tk y k0 (j + 1) := by
        refine le_by K ?_
        have e2 : 2 * tk y k0 (j + 1) * ((k0 + 2 * j : Nat) : Rat) = 2 * (tk y k0 j * y) := by rw [← e]; grind
        rw [e2]
        have := Rat.mul_le_mul_of_nonneg_left (Rat.le_of_lt g0) n
        grind
      have p : p2 ((k0 + 2 * (j + 1) + 1 - c) / 2) = 2 * p2 ((k0 + 2 * j + 1 - c) / 2) := by
        rw [show (k0 + 2 * (j + 1) + 1 - c) / 2 = (k0 + 2 * j + 1 - c) / 2 + 1 by omega]
        show ((2 ^ (_ + 1) : Nat) : Rat) = _
        rw [Nat.pow_succ, Ex.castmul, Rat.mul_comm]; rfl
      rw [p]
      have m := Rat.mul_le_mul_of_nonneg_right up (Rat.le_of_lt (p2_pos ((k0 + 2 * j + 1 - c) / 2)))
      grind
end
theorem le_128 {x : Rat} (h : x ≤ 64) : x * 2 ≤ 128 := by grind
theorem tk_late {y : Rat} {k0 w j : Nat} (hk : 1 ≤ k0) (hk2 : k0 ≤ 300) (h : 0 ≤ y) (h128 : y ≤ 128) (hw : 80 ≤ w) (g : tk y k0 j * p2 w < 4) : y + y ≤ ((k0 + 2 * j : Nat) : Rat) := by
  refine Rat.not_lt.1 fun b => ?_
  obtain ⟨c, hc, hc2⟩ : ∃ c : Nat, (c : Rat) ≤ y ∧ y < ((c + 1 : Nat) : Rat) := by
    refine ⟨y.floor.toNat, ?_, ?_⟩
    · have f0 : 0 ≤ y.floor := Rat.le_floor_iff.2 h
      have : ((y.floor.toNat : Nat) : Rat) = ((y.floor : Int) : Rat) := by
        rw [← castZn, Int.toNat_of_nonneg f0]
      rw [this]; exact Rat.floor_le y
    · have f0 : 0 ≤ y.floor := Rat.le_floor_iff.2 h
      have : ((y.floor.toNat + 1 : Nat) : Rat) = ((y.floor : Int) : Rat) + 1 := by
        rw [Ex.castadd, ← castZn, Int.toNat_of_nonneg f0]; rfl
      rw [this, show ((y.floor : Int) : Rat) + 1 = ((y.floor + 1 : Int) : Rat) by rw [castZ]; rfl]; exact Rat.lt_floor_add_one y
  have big := tk_big hk h hc hc2 j b
  have kc : k0 + 2 * j < 2 * (c + 1) := by
    have : ((k0 + 2 * j : Nat) : Rat) < ((2 * (c + 1) : Nat) : Rat) := by
      rw [Ex.castmul, show ((2 : Nat) : Rat) = 2 from rfl]; grind
    exact_mod_cast this
  have c128 : c ≤ 128 := by
    have : (c : Rat) ≤ ((128 : Nat) : Rat) := Rat.le_trans hc h128
    exact_mod_cast this
  have n := tk_nn hk h j
  have e : p2 w = 4 * (p2 (w - 2 - (k0 + 2 * j + 1 - c) / 2) * p2 ((k0 + 2 * j + 1 - c) / 2)) := by
    rw [← p2_plus]
    have : 2 ^ w = 4 * 2 ^ (w - 2 - (k0 + 2 * j + 1 - c) / 2 + (k0 + 2 * j + 1 - c) / 2) := by
      rw [show (4 : Nat) = 2 ^ 2 from rfl, ← Nat.pow_add]; congr 1; omega
    show ((2 ^ w : Nat) : Rat) = 4 * ((2 ^ (_ + _) : Nat) : Rat)
    rw [this, Ex.castmul]; rfl
  have one : (1 : Rat) ≤ p2 (w - 2 - (k0 + 2 * j + 1 - c) / 2) := Ex.castle (show 1 ≤ 2 ^ _ from Nat.pow_pos (by omega))
  have m := mul_le one big (Rat.le_of_lt (p2_pos _)) (by decide)
  rw [e] at g
  grind
theorem tRow_enc {w Y1 Y2 M k0 : Nat} {y c : Rat} (hk0 : 1 ≤ k0) (hy : Enc w Y1 Y2 y) (hc : 0 ≤ c) (late : ∀ i, M ≤ k0 + 2 * i → c * tk y k0 i * p2 w < 4 → y + y ≤ ((k0 + 2 * i : Nat) : Rat)) :
    ∀ (f i t1 t2 a1 a2 A B : Nat), tRow w Y1 Y2 M f (k0 + 2 * i) t1 t2 a1 a2 = some (A, B) → Enc w t1 t2 (c * tk y k0 i) → Enc w a1 a2 (c * sk y k0 (i + 1)) → ∃ s, ∀ L, s ≤ L → Enc w A B (c * sk y k0 L) := by
  have y0 := enc_nonneg hy
  have P := p2_pos w
  intro f
  induction f with
  | zero => intro i t1 t2 a1 a2 A B h; cases h
  | succ f ih =>
    intro i t1 t2 a1 a2 A B h ht ha
    rw [tRow] at h
    by_cases g : M ≤ k0 + 2 * i ∧ t2 < 4
    · rw [if_pos g] at h
      simp only [Option.some.injEq, Prod.mk.injEq] at h
      obtain ⟨rfl, rfl⟩ := h
      have t3 : (t2 : Rat) ≤ 3 := Ex.castle (b := 3) (by omega)
      have lt := late i g.1 (by have := ht.2; grind)
      refine ⟨i + 1, fun L hL => ?_⟩
      have up := sk_up hk0 y0 hL
      have top := sk_top (L := L) hk0 y0 lt
      have m1 := Rat.mul_le_mul_of_nonneg_right (Rat.mul_le_mul_of_nonneg_left up hc) (Rat.le_of_lt P)
      have m2 := Rat.mul_le_mul_of_nonneg_right (Rat.mul_le_mul_of_nonneg_left top hc) (Rat.le_of_lt P)
      refine ⟨Rat.le_trans ha.1 m1, Rat.le_trans m2 ?_⟩
      rw [Ex.castadd, show ((8 : Nat) : Rat) = 8 from rfl, Rat.mul_add, Rat.add_mul]
      have a := ha.2
      have b := ht.2
      generalize c * sk y k0 (i + 1) * p2 w = u at *
      generalize c * tk y k0 i * p2 w = v at *
      clear late ih m1 m2 up top lt
      grind
    · rw [if_neg g] at h
      have e1 := enc_times (n := 1) (d := k0 + 2 * i) (by omega) (enc_mul ht hy)
      have e2 : c * tk y k0 i * y * ((1 : Nat) : Rat) / ((k0 + 2 * i : Nat) : Rat) = c * tk y k0 (i + 1) := by
        show _ = c * (tk y k0 i * y * ((1 : Nat) : Rat) / ((k0 + 2 * i : Nat) : Rat))
        rw [Rat.div_def, Rat.div_def]; grind
      rw [e2] at e1
      have e3 := enc_add ha e1
      rw [← Rat.mul_add] at e3
      exact ih (i + 1) _ _ _ _ A B h e1 e3
def wRow (W D : Nat) : Nat → Nat → Nat → Nat → Nat → Nat → Nat × Nat
  | 0, _, _, _, s, e => (s, e)
  | f + 1, k, t, d, s, e => pin (k + 2) fun k' => pin (t * W / k + 2) fun t' => pin ((d * W + t * D) / k + 8) fun d' => pin (s + t') fun s' => pin (e + d') fun e' => wRow W D f k' t' d' s' e'
theorem wRow_succ (W D f k t d s e : Nat) : wRow W D (f + 1) k t d s e = wRow W D f (k + 2) (t * W / k + 2) ((d * W + t * D) / k + 8) (s + (t * W / k + 2)) (e + ((d * W + t * D) / k + 8)) := by
  rw [wRow, pin_eq, pin_eq, pin_eq, pin_eq, pin_eq]
theorem wRow_up (W D : Nat) : ∀ (f k t d s e : Nat), s ≤ (wRow W D f k t d s e).1 ∧ e ≤ (wRow W D f k t d s e).2
  | 0, _, _, _, s, e => ⟨Nat.le_refl _, Nat.le_refl _⟩
  | f + 1, k, t, d, s, e => by
    have h := wRow_up W D f (k + 2) (t * W / k + 2) ((d * W + t * D) / k + 8) (s + (t * W / k + 2)) (e + ((d * W + t * D) / k + 8))
    rw [wRow_succ]
    exact ⟨Nat.le_trans (Nat.le_add_right _ _) h.1, Nat.le_trans (Nat.le_add_right _ _) h.2⟩
theorem wRow_step {w Y1 Y2 W D k t1 t2 t d : Nat} (hk : 1 ≤ k) (hY : Y2 ≤ W * 2 ^ w) (hY1 : Y1 ≤ Y2) (hD : Y2 ≤ Y1 + D) (h12 : t1 ≤ t2) (ht : t2 ≤ t * 2 ^ w) (hd : t2 ≤ t1 + d) :
    (t2 * Y2 / 2 ^ w + 1) * 1 / k + 1 ≤ (t * W / k + 2) * 2 ^ w ∧ (t2 * Y2 / 2 ^ w + 1) * 1 / k + 1 ≤ t1 * Y1 / 2 ^ w * 1 / k + ((d * W + t * D) / k + 8) := by
  have P : 0 < 2 ^ w := Nat.pow_pos (by omega)
  rw [Nat.mul_one, Nat.mul_one]
  have a : t2 * Y2 / 2 ^ w ≤ t2 * W := by
    refine (Nat.div_le_iff_le_mul P).2 ?_
    have m := Nat.mul_le_mul_left t2 hY
    rw [← Nat.mul_assoc] at m
    omega
  have gap : t2 * Y2 / 2 ^ w ≤ t1 * Y1 / 2 ^ w + (d * W + t * D) + 1 := by
    have h1 : t2 * Y2 ≤ t1 * Y1 + (d * W + t * D) * 2 ^ w := by
      have m1 : t2 * Y2 ≤ (t1 + d) * Y2 := Nat.mul_le_mul_right _ hd
      have m2 : t1 * Y2 ≤ t1 * (Y1 + D) := Nat.mul_le_mul_left _ hD
      have m3 : d * Y2 ≤ d * (W * 2 ^ w) := Nat.mul_le_mul_left _ hY
      have m4 : t1 * D ≤ t * 2 ^ w * D := Nat.mul_le_mul_right _ (Nat.le_trans h12 ht)
      have e1 : (d * W + t * D) * 2 ^ w = d * (W * 2 ^ w) + t * 2 ^ w * D := by rw [Nat.add_mul]; rw [Nat.mul_assoc d, Nat.mul_right_comm t D]
      rw [Nat.add_mul] at m1
      rw [Nat.mul_add] at m2
      omega
    have h2 := Nat.div_le_div_right (c := 2 ^ w) h1
    rw [Nat.add_mul_div_right _ _ P] at h2
    omega
  constructor
  · have b : (t2 * Y2 / 2 ^ w + 1) / k ≤ t * W / k * 2 ^ w + 2 ^ w := by
      refine (Nat.div_le_iff_le_mul hk).2 ?_
      have m := Nat.mul_le_mul_right W ht
      have q := Nat.lt_mul_div_succ (t * W) hk
      have m2 := Nat.mul_le_mul_right (2 ^ w) (show t * W + 1 ≤ k * (t * W / k + 1) by omega)
      have e1 : t * 2 ^ w * W = t * W * 2 ^ w := by rw [Nat.mul_assoc, Nat.mul_comm (2 ^ w), ← Nat.mul_assoc]
      have e2 : (t * W / k * 2 ^ w + 2 ^ w) * k = k * (t * W / k + 1) * 2 ^ w := by
        generalize t * W / k = z
        generalize 2 ^ w = p
        grind
      rw [Nat.add_mul, Nat.one_mul] at m2
      omega
    have e : (t * W / k + 2) * 2 ^ w = t * W / k * 2 ^ w + 2 ^ w + 2 ^ w := by rw [Nat.add_mul]; omega
    omega
  · generalize t2 * Y2 / 2 ^ w = q2 at *
    generalize t1 * Y1 / 2 ^ w = q1 at *
    generalize d * W + t * D = g at *
    have h3 : (q2 + 1) / k ≤ (q1 + g + 2) / k := Nat.div_le_div_right (by omega)
    have h4 : (q1 + g + 2) / k ≤ q1 / k + g / k + 4 := by
      refine (Nat.div_le_iff_le_mul hk).2 ?_
      have a1 := Nat.lt_mul_div_succ q1 hk
      have a2 := Nat.lt_mul_div_succ g hk
      have e : (q1 / k + g / k + 4) * k = k * (q1 / k + 1) + k * (g / k + 1) + 2 * k := by
        generalize q1 / k = z1
        generalize g / k = z2
        grind
      omega
    omega
theorem tRow_wide {w Y1 Y2 M W D : Nat} (hY : Y2 ≤ W * 2 ^ w) (hY1 : Y1 ≤ Y2) (hD : Y2 ≤ Y1 + D) : ∀ (f F k t1 t2 a1 a2 t d s e A B : Nat), f ≤ F → 1 ≤ k → tRow w Y1 Y2 M f k t1 t2 a1 a2 = some (A, B) → t1 ≤ t2 → t2 ≤ t * 2 ^ w → t2 ≤ t1 + d → a2 ≤ s * 2 ^ w → a2 ≤ a1 + e → a1 ≤ a2 →
    A ≤ B ∧ B ≤ (wRow W D F k t d s e).1 * 2 ^ w + 8 ∧ B ≤ A + (wRow W D F k t d s e).2 + 8 := by
  intro f
  induction f with
  | zero => intro F k t1 t2 a1 a2 t d s e A B _ _ h; cases h
  | succ f ih =>
    intro F k t1 t2 a1 a2 t d s e A B hF hk h h12 ht hd hs he ha
    obtain ⟨F, rfl⟩ : ∃ G, F = G + 1 := ⟨F - 1, by omega⟩
    rw [tRow] at h
    by_cases g : M ≤ k ∧ t2 < 4
    · rw [if_pos g] at h
      simp only [Option.some.injEq, Prod.mk.injEq] at h
      obtain ⟨rfl, rfl⟩ := h
      obtain ⟨u1, u2⟩ := wRow_up W D (F + 1) k t d s e
      have m := Nat.mul_le_mul_right (2 ^ w) u1
      exact ⟨by omega, by omega, by omega⟩
    · rw [if_neg g] at h
      obtain ⟨s1, s2⟩ := wRow_step hk hY hY1 hD h12 ht hd
      have q0 : t1 * Y1 / 2 ^ w * 1 / k ≤ (t2 * Y2 / 2 ^ w + 1) * 1 / k + 1 := by
        refine Nat.le_succ_of_le (Nat.div_le_div_right (Nat.mul_le_mul_right 1 ?_))
        exact Nat.le_succ_of_le (Nat.div_le_div_right (Nat.mul_le_mul h12 hY1))
      rw [wRow_succ]
      have ih' := fun t1 t2 a1 a2 t d s e => ih F (k + 2) t1 t2 a1 a2 t d s e A B (by omega) (by omega)
      clear ih hY hY1 hD ht hd
      generalize t1 * Y1 / 2 ^ w * 1 / k = u1 at *
      generalize (t2 * Y2 / 2 ^ w + 1) * 1 / k + 1 = u2 at *
      generalize t * W / k + 2 = t' at *
      generalize (d * W + t * D) / k + 8 = d' at *
      refine ih' _ _ _ _ t' d' (s + t') (e + d') h q0 s1 s2 ?_ (by omega) (by omega)
      rw [Nat.add_mul]; omega
end Go.Proofs.YtemnjalaincijaaGreat
namespace Go.Proofs.YtemnjalaincijaaGreat
open Go.Ev
end Go.Proofs.YtemnjalaincijaaGreat
namespace Go.Proofs.YtemnjalaincijaaGreat
open Go.Ev
end Go.Proofs.YtemnjalaincijaaGreat
namespace Go.Proofs.YtemnjalaincijaaGreat
open Go.Ev
theorem p2_add (a b : Nat) : p2 (a + b) = p2 a * p2 b := by
  show ((2 ^ (a + b) : Nat) : Rat) = _
  rw [Nat.pow_add]
  exact_mod_cast rfl
theorem n_mul (a b : Nat) : ((a * b : Nat) : Rat) = (a : Rat) * (b : Rat) := by exact_mod_cast rfl
theorem n_le {a b : Nat} (h : a ≤ b) : (a : Rat) ≤ (b : Rat) := by exact_mod_cast h
theorem n_nn (a : Nat) : (0 : Rat) ≤ (a : Rat) := by exact_mod_cast Nat.zero_le a
def SQ : Rat := mkRat (rootPi : Int) (2 ^ 400)
theorem SQ_mul : SQ * p2 400 = (rootPi : Rat) := by
  unfold SQ
  rw [Rat.mkRat_eq_div]
  exact Rat.div_mul_cancel (by have : (0 : Rat) < p2 400 := p2_pos 400; grind)
theorem SQ_nn : 0 ≤ SQ := le_by (p2_pos 400) (by rw [SQ_mul, Rat.zero_mul]; exact n_nn _)
theorem sq_split {p : Nat} (hp : p ≤ 800) : SQ * SQ * p2 p * p2 (800 - p) = ((rootPi * rootPi : Nat) : Rat) := by
  have h1 : p2 p * p2 (800 - p) = p2 400 * p2 400 := by rw [← p2_add, ← p2_add]; congr 1; omega
  have h2 : SQ * SQ * p2 p * p2 (800 - p) = SQ * SQ * (p2 p * p2 (800 - p)) := by grind
  have h3 : SQ * SQ * (p2 400 * p2 400) = (SQ * p2 400) * (SQ * p2 400) := by grind
  rw [h2, h1, h3, SQ_mul, n_mul]
theorem sq_lo {a p : Nat} (hp : p ≤ 800) (h : a * 2 ^ (800 - p) ≤ rootPi * rootPi) : (a : Rat) ≤ SQ * SQ * p2 p := by
  refine le_by (p2_pos (800 - p)) ?_
  rw [sq_split hp]
  have := n_le h
  rw [n_mul] at this
  exact this
theorem sq_hi {a p : Nat} (hp : p ≤ 800) (h : rootPi * rootPi ≤ a * 2 ^ (800 - p)) : SQ * SQ * p2 p ≤ (a : Rat) := by
  refine le_by (p2_pos (800 - p)) ?_
  rw [sq_split hp]
  have := n_le h
  rw [n_mul a] at this
  exact this
theorem sq_ge {a p : Nat} (hp : p ≤ 400) (h : rootPi * rootPi ≤ (a + 1) * 2 ^ (800 - p)) : 2 ^ p ≤ a := by
  have h1 : 2 * 2 ^ 800 ≤ rootPi * rootPi := by decide +kernel
  have h2 : 2 ^ 800 = 2 ^ p * 2 ^ (800 - p) := by rw [← Nat.pow_add]; congr 1; omega
  have h3 : 0 < 2 ^ (800 - p) := Nat.pow_pos (by omega)
  have h4 : 2 * 2 ^ p * 2 ^ (800 - p) ≤ (a + 1) * 2 ^ (800 - p) := by rw [Nat.mul_assoc, ← h2]; exact Nat.le_trans h1 h
  have h5 := Nat.le_of_mul_le_mul_right h4 h3
  have h6 : 0 < 2 ^ p := Nat.pow_pos (by omega)
  omega
theorem sq_mono {x y : Rat} (hx : 0 ≤ x) (hy : 0 ≤ y) (h : x * x ≤ y * y) : x ≤ y := by
  rcases Rat.le_total (a := x) (b := y) with g | g
  · exact g
  · by_cases e : y = x
    · rw [e]; exact Rat.le_refl
    · have h1 : y < x := by grind
      have h2 : y * y ≤ x * y := Rat.mul_le_mul_of_nonneg_right g hy
      have h3 : x * y < x * x := by
        have : 0 < x * (x - y) := Rat.mul_pos (by grind) (by grind)
        grind
      grind
theorem root_width {lo lo' hi' hi A B P : Rat} (hP : 0 < P) (a2 : lo ≤ lo') (a4 : A ≤ lo' * lo') (a5 : (lo' - lo) * P ≤ 1) (h0 : 0 ≤ lo) (b1 : 0 ≤ hi') (b3 : hi' * hi' ≤ B) (b5 : (hi - hi') * P ≤ 1) (hA : 1 ≤ A) (hAB : (B - A) * P ≤ 1) (hAB0 : A ≤ B) : (hi - lo) * P ≤ 3 := by
  have l0 : 0 ≤ lo' := Rat.le_trans h0 a2
  have l1 : 1 ≤ lo' := sq_mono (by decide) l0 (by rw [Rat.mul_one]; exact Rat.le_trans hA a4)
  have key : hi' - lo' ≤ B - A := by
    rcases Rat.le_total (a := hi') (b := lo') with g | g
    · grind
    · have h1 : (hi' - lo') * 1 ≤ (hi' - lo') * (hi' + lo') := Rat.mul_le_mul_of_nonneg_left (by grind) (by grind)
      have h2 : (hi' - lo') * (hi' + lo') = hi' * hi' - lo' * lo' := by grind
      grind
  have k2 := Rat.mul_le_mul_of_nonneg_right key (show 0 ≤ P by grind)
  have e : (hi - lo) * P = (hi - hi') * P + (hi' - lo') * P + (lo' - lo) * P := by grind
  grind
end Go.Proofs.YtemnjalaincijaaGreat
namespace Go.Proofs.YtemnjalaincijaaGreat
open Go.Ev
theorem mk_p2 (a p : Nat) : mkRat (a : Int) (2 ^ p) * p2 p = (a : Rat) := mk_mulP (a : Int) (Nat.pow_pos (by omega))
theorem many_pi {d : Nat} (h1 : 8 ≤ d) (h2 : d < 233) : ∃ m1 m2 : Rat, Go.Ev.Fn CX 149 [.int .i64 (d : Int)] (ballR m1 m2) ∧ m1 ≤ SQ * SQ ∧ SQ * SQ ≤ m2 ∧ (m2 - m1) * p2 d ≤ 1 ∧ 1 ≤ m1 ∧ szR m1 40 ∧ szR m2 40 := by
  obtain ⟨a, f, g1, g2⟩ := arcs_Pi h1 h2
  have P := p2_pos d
  have e1 := mk_p2 a d
  have e2 := mk_p2 (a + 1) d
  have k1 := sq_lo (by omega) g1
  have k2 := sq_hi (a := a + 1) (by omega) g2
  have k3 := sq_ge (by omega) g2
  have hA : a ≤ 2 ^ (d + 4) := by
    have x1 : rootPi * rootPi ≤ 2 ^ 804 := by decide +kernel
    have x2 : 2 ^ 804 = 2 ^ (d + 4) * 2 ^ (800 - d) := by rw [← Nat.pow_add]; congr 1; omega
    rw [x2] at x1
    exact Nat.le_of_mul_le_mul_right (Nat.le_trans g1 x1) (Nat.pow_pos (by omega))
  have hp : 2 ^ d ≤ 2 ^ (d + 4) := Nat.pow_le_pow_right (by omega) (by omega)
  have hB : a + 1 ≤ 2 ^ (d + 5) := by
    have : 2 ^ (d + 5) = 2 ^ (d + 4) * 2 := by rw [← Nat.pow_succ]
    have := Nat.pow_pos (a := 2) (n := d + 4) (by omega)
    omega
  have lp := lim_len_p2 hp (by omega)
  have la := lim_len_p2 hA (by omega)
  have lb := lim_len_p2 hB (by omega)
  refine ⟨_, _, f, le_by P (by rw [e1]; exact k1), le_by P (by rw [e2]; exact k2), ?_, le_by P (by rw [e1, Rat.one_mul]; exact n_le k3), szR_nat la lp (by omega), szR_nat lb lp (by omega)⟩
  have e : ∀ a b c : Rat, (a - b) * c = a * c - b * c := by intro a b c; grind
  rw [e, e1, e2]
  have : ((a + 1 : Nat) : Rat) = (a : Rat) + 1 := by exact_mod_cast rfl
  rw [this]
  grind
theorem many_root {m1 m2 : Rat} {d : Nat} (hd : d < 233) (h1 : m1 ≤ SQ * SQ) (h2 : SQ * SQ ≤ m2) (h3 : (m2 - m1) * p2 d ≤ 1) (h4 : 1 ≤ m1) (z1 : szR m1 40) (z2 : szR m2 40) :
    ∃ lo hi : Rat, Go.Ev.Fn CX 147 [ballR m1 m2, .int .i64 (d : Int)] (.tup [ballR lo hi, .bool true]) ∧ lo ≤ SQ ∧ SQ ≤ hi ∧ (hi - lo) * p2 d ≤ 3 ∧ szR lo 80 ∧ szR hi 80 := by
  have h5 : m1 ≤ m2 := Rat.le_trans h1 h2
  obtain ⟨lo, lo', hi', hi, f, g1, g2, g3, g4, g5, k1, k2, k3, k4, k5, y1, y2⟩ := root_Of (L := 40) (p := d) (A := m1) (B := m2) (by grind) (by grind) z1 z2 (by omega) (by omega) (by omega)
  refine ⟨lo, hi, f, sq_mono g1 SQ_nn (Rat.le_trans g3 h1), sq_mono SQ_nn (Rat.le_trans k1 k2) (Rat.le_trans h2 k4), root_width (p2_pos d) g2 g4 g5 g1 k1 k3 k5 h4 h3 h5, y1, y2⟩
section
variable {v : SV} {q : Rat} {roots pI : Int} {P : Nat}
end
end Go.Proofs.YtemnjalaincijaaGreat
namespace Go.Proofs.YtemnjalaincijaaGreat
open Go.Ev
section
variable {v : SV} {z : Rat} {L P w : Nat} {pI : Int}
theorem unN_mk (m w : Nat) : unN (mkRat (m : Int) (2 ^ w)) w = m := by
  have P : 0 < 2 ^ w := Nat.pow_pos (by omega)
  obtain ⟨q, hq⟩ : ∃ q, q = mkRat (m : Int) (2 ^ w) := ⟨_, rfl⟩
  have e := mk_p2 m w
  rw [← hq] at e ⊢
  have q0 : 0 ≤ q := by
    refine le_by (p2_pos w) ?_
    rw [e, Rat.zero_mul]; exact nat_nonneg m
  have nn : 0 ≤ q.num := Rat.num_nonneg.2 q0
  have d := Ex.denR q
  have k : ((q.num.natAbs * 2 ^ w : Nat) : Rat) = ((m * q.den : Nat) : Rat) := by
    rw [Ex.castmul, Ex.castmul, ← e]
    have : ((q.num.natAbs : Nat) : Rat) = (q.num : Rat) := by
      have h : ((q.num.natAbs : Nat) : Rat) = ((q.num.natAbs : Int) : Rat) := rfl
      rw [h, Int.natAbs_of_nonneg nn]
    rw [this, ← d]; grind
  have k2 := Ex.nat_inj k
  show q.num.natAbs * 2 ^ w / q.den = m
  rw [k2]
  exact Nat.mul_div_cancel _ q.den_pos
theorem unN_lt {q : Rat} (h0 : 0 ≤ q) (w : Nat) : q * p2 w < ((unN q w + 1 : Nat) : Rat) := by
  have d := Ex.denR q
  have dR : (0 : Rat) < (q.den : Rat) := by exact_mod_cast q.den_pos
  have nn : 0 ≤ q.num := Rat.num_nonneg.2 h0
  have k := Nat.lt_mul_div_succ (q.num.natAbs * 2 ^ w) q.den_pos
  have k2 := Ex.castlt k
  rw [Ex.castmul, Ex.castmul] at k2
  have e : ((q.num.natAbs : Nat) : Rat) = (q.num : Rat) := by
    have h : ((q.num.natAbs : Nat) : Rat) = ((q.num.natAbs : Int) : Rat) := rfl
    rw [h, Int.natAbs_of_nonneg nn]
  rw [e, ← d] at k2
  refine Rat.not_le.1 fun hc => ?_
  have m := Rat.mul_le_mul_of_nonneg_right hc (Rat.le_of_lt dR)
  have k3 : q * (q.den : Rat) * p2 w < (q.den : Rat) * ((unN q w + 1 : Nat) : Rat) := k2
  grind
theorem unN_mono {p q : Rat} (h0 : 0 ≤ p) (h : p ≤ q) (w : Nat) : unN p w ≤ unN q w := by
  have a := (unN_le h0 w).1
  have b := (unN_lt (show 0 ≤ q by grind) w)
  have m := Rat.mul_le_mul_of_nonneg_right h (Rat.le_of_lt (p2_pos w))
  have k : ((unN p w : Nat) : Rat) < ((unN q w + 1 : Nat) : Rat) := by grind
  have k2 : unN p w < unN q w + 1 := by exact_mod_cast k
  omega
theorem fix_RatS {s : Bool} {n d : Nat} (hd : 0 < d) (ln : (lim n).length ≤ 1000) (ld : (lim d).length ≤ 1000) (hw : w ≤ 10000) : Go.Ev.Fn CX 128 [ratV s (lim n) (lim d), .int .i64 (w : Int)] (spanV (n * 2 ^ w / d) (n * 2 ^ w / d + 1)) := by
  have of := fix_Of (n := n) (d := d) (w := w) (by omega) (by omega) (by omega) (by omega)
  generalize n * 2 ^ w / d = x at *
  refine Go.Ev.Fn.intro (fn := Tryz.f128) (body := (Tryz.f128).body.get!) (by kernel_rfl) (by kernel_rfl) (by kernel_rfl) (fun _ => rfl) (Nat.le_of_ble_eq_true (by kernel_rfl)) ?_; unfold Tryz.f128; simp only [Option.get!_some]
  repeat (first | (simp only [go_sem, Nat.reduceEqDiff, Nat.reduceAdd, Nat.reduceSub, Nat.reduceMul, Nat.reduceLeDiff, Nat.reduceLT, reduceIte, reduceCtorEq, Nat.succ_ne_zero, elemsC, Int.reduceToNat, Nat.reducePow]) | (simp (disch := (first | omega | (simp only [AL, List.length_map]; omega))) only [AR, AL, ifT, ifF, take_all, List.length_cons, List.length_nil, Int.reduceToNat, Int.reducePow, Nat.reducePow]) | (refine wk_intro (by kernel_rfl) ?_) | (refine vf_of (by first | exact of) ?_))
end
end Go.Proofs.YtemnjalaincijaaGreat
namespace Go.Proofs.YtemnjalaincijaaGreat
open Go.Ev
theorem den_le {q : Rat} {L : Nat} (h : szR q L) (hL : L ≤ 7) : q.den ≤ 2 ^ 240 := by
  have a : q.den < 4294967296 ^ (lim q.den).length := lim_len_pow
  have b : 4294967296 ^ (lim q.den).length ≤ 4294967296 ^ 7 := Nat.pow_le_pow_right (by omega) (Nat.le_trans h.2 hL)
  have c : 4294967296 ^ 7 ≤ 2 ^ 240 := by decide +kernel
  omega
theorem sq_bd {z : Rat} (h0 : 0 ≤ z) (h : z ≤ 8) : 0 ≤ z * z ∧ z * z ≤ 64 := by
  have a := Rat.mul_nonneg h0 h0
  have b := Rat.mul_le_mul_of_nonneg_left h h0
  exact ⟨a, by grind⟩
section
variable {z : Rat} {w P : Nat} {pI : Int}
end
end Go.Proofs.YtemnjalaincijaaGreat
namespace Go.Proofs.YtemnjalaincijaaGreat
open Go.Ev
theorem told_span {A B w p : Nat} (hAB : A ≤ B) (hB : B < 2 ^ (w + 10040)) (hp : p < w) (hw : w ≤ 500) :
    ∃ l h : Rat, l ≤ h ∧ 0 ≤ l ∧ szR l 400 ∧ szR h 400 ∧ l = mkRat ((A / 2 ^ (w - p) : Nat) : Int) (2 ^ p) ∧ h = mkRat ((B / 2 ^ (w - p) + 1 : Nat) : Int) (2 ^ p) ∧ Go.Ev.Fn CX 63 [spanV A B, .int .i64 (w : Int), .int .i64 (p : Int)] (ballR l h) := by
  have lB := lim_len_pw hB
  have lA := lim_len_mono hAB
  have t := fix_Told (a := A) (b := B) (w := w) (p := p) (by omega) (by omega) hp (by omega)
  have P := p2_pos p
  have a := mk_p2 (A / 2 ^ (w - p)) p
  have b := mk_p2 (B / 2 ^ (w - p) + 1) p
  have d : A / 2 ^ (w - p) ≤ B / 2 ^ (w - p) + 1 := Nat.le_succ_of_le (Nat.div_le_div_right hAB)
  have l1 := lim_len_mono (Nat.div_le_self A (2 ^ (w - p)))
  have l2 := lim_len_mono (Nat.div_le_self B (2 ^ (w - p)))
  have l3 := lim_len_add (a := B / 2 ^ (w - p)) (b := 1) (L := 399) (by omega) (by have := lim_len1; omega)
  have lp := lim_len_shl (a := 1) (n := p)
  rw [Nat.one_mul] at lp
  have lo := lim_len1
  refine ⟨_, _, le_by P ?_, le_by P ?_, szR_nat (by omega) (by omega) (by omega), szR_nat (by omega) (by omega) (by omega), rfl, rfl, t⟩
  · rw [a, b]; exact Ex.castle d
  · rw [a, Rat.zero_mul]; exact nat_nonneg _
section
variable {z : Rat} {P : Nat} {pI : Int}
end
end Go.Proofs.YtemnjalaincijaaGreat
namespace Go.Proofs.YtemnjalaincijaaGreat
open Go.Ev
def pRow (w Y1 Y2 : Nat) : Nat → Nat → Nat → Nat → Nat × Nat
  | 0, _, a, b => (a, b)
  | f + 1, k, a, b => pRow w Y1 Y2 f (k + 2) (a * Y1 / 2 ^ w * 1 / k) ((b * Y2 / 2 ^ w + 1) * 1 / k + 1)
def wPow (W D : Nat) : Nat → Nat → Nat → Nat → Nat × Nat
  | 0, _, t, d => (t, d)
  | f + 1, k, t, d => pin (k + 2) fun k' => pin (t * W / k + 2) fun t' => pin ((d * W + t * D) / k + 8) fun d' => wPow W D f k' t' d'
theorem wPow_succ (W D f k t d : Nat) : wPow W D (f + 1) k t d = wPow W D f (k + 2) (t * W / k + 2) ((d * W + t * D) / k + 8) := by
  rw [wPow, pin_eq, pin_eq, pin_eq]
theorem tk_next {c y : Rat} {k0 i : Nat} : c * tk y k0 i * y * ((1 : Nat) : Rat) / ((k0 + 2 * i : Nat) : Rat) = c * tk y k0 (i + 1) := by
  show _ = c * (tk y k0 i * y * ((1 : Nat) : Rat) / ((k0 + 2 * i : Nat) : Rat))
  rw [Rat.div_def, Rat.div_def]; grind
theorem pRow_enc {w Y1 Y2 k0 : Nat} {y c : Rat} (hk0 : 1 ≤ k0) (hy : Enc w Y1 Y2 y) : ∀ (f i a b : Nat), Enc w a b (c * tk y k0 i) → Enc w (pRow w Y1 Y2 f (k0 + 2 * i) a b).1 (pRow w Y1 Y2 f (k0 + 2 * i) a b).2 (c * tk y k0 (i + f))
  | 0, i, a, b, h => h
  | f + 1, i, a, b, h => by
    have e1 := enc_times (n := 1) (d := k0 + 2 * i) (by omega) (enc_mul h hy)
    rw [tk_next] at e1
    have ih := pRow_enc hk0 hy f (i + 1) _ _ e1
    rw [show i + 1 + f = i + (f + 1) by omega] at ih
    exact ih
theorem pRow_wide {w Y1 Y2 W D : Nat} (hY : Y2 ≤ W * 2 ^ w) (hY1 : Y1 ≤ Y2) (hD : Y2 ≤ Y1 + D) : ∀ (f k a b t d : Nat), 1 ≤ k → a ≤ b → b ≤ t * 2 ^ w → b ≤ a + d →
    (pRow w Y1 Y2 f k a b).1 ≤ (pRow w Y1 Y2 f k a b).2 ∧ (pRow w Y1 Y2 f k a b).2 ≤ (wPow W D f k t d).1 * 2 ^ w ∧ (pRow w Y1 Y2 f k a b).2 ≤ (pRow w Y1 Y2 f k a b).1 + (wPow W D f k t d).2
  | 0, k, a, b, t, d, _, h1, h2, h3 => ⟨h1, h2, h3⟩
  | f + 1, k, a, b, t, d, hk, h1, h2, h3 => by
    obtain ⟨s1, s2⟩ := wRow_step hk hY hY1 hD h1 h2 h3
    have q0 : a * Y1 / 2 ^ w * 1 / k ≤ (b * Y2 / 2 ^ w + 1) * 1 / k + 1 := by
      refine Nat.le_succ_of_le (Nat.div_le_div_right (Nat.mul_le_mul_right 1 ?_))
      exact Nat.le_succ_of_le (Nat.div_le_div_right (Nat.mul_le_mul h1 hY1))
    rw [wPow_succ]
    exact pRow_wide hY hY1 hD f (k + 2) _ _ _ _ (by omega) q0 s1 s2
theorem mulS {w a b c d α β γ δ : Nat} (h1 : a ≤ b) (h2 : c ≤ d) (h3 : b ≤ α * 2 ^ w) (h4 : d ≤ β * 2 ^ w) (h5 : b ≤ a + γ) (h6 : d ≤ c + δ) :
    a * c / 2 ^ w ≤ b * d / 2 ^ w + 1 ∧ b * d / 2 ^ w + 1 ≤ (α * β + 1) * 2 ^ w ∧ b * d / 2 ^ w + 1 ≤ a * c / 2 ^ w + (γ * β + α * δ + 2) := by
  have P : 0 < 2 ^ w := Nat.pow_pos (by omega)
  refine ⟨Nat.le_succ_of_le (Nat.div_le_div_right (Nat.mul_le_mul h1 h2)), ?_, ?_⟩
  · have m := Nat.mul_le_mul h3 h4
    have q : b * d / 2 ^ w ≤ α * β * 2 ^ w := by
      refine (Nat.div_le_iff_le_mul P).2 ?_
      have e : α * 2 ^ w * (β * 2 ^ w) = α * β * 2 ^ w * 2 ^ w := by generalize 2 ^ w = z; grind
      omega
    rw [Nat.add_mul]; omega
  · have m1 : b * d ≤ (a + γ) * d := Nat.mul_le_mul_right _ h5
    have m2 : a * d ≤ a * (c + δ) := Nat.mul_le_mul_left _ h6
    have m3 : γ * d ≤ γ * (β * 2 ^ w) := Nat.mul_le_mul_left _ h4
    have m4 : a * δ ≤ α * 2 ^ w * δ := Nat.mul_le_mul_right _ (Nat.le_trans h1 h3)
    have e1 : (γ * β + α * δ) * 2 ^ w = γ * (β * 2 ^ w) + α * 2 ^ w * δ := by rw [Nat.add_mul, Nat.mul_assoc γ, Nat.mul_right_comm α δ]
    rw [Nat.add_mul] at m1
    rw [Nat.mul_add] at m2
    have h := Nat.div_le_div_right (c := 2 ^ w) (show b * d ≤ a * c + (γ * β + α * δ) * 2 ^ w by omega)
    rw [Nat.add_mul_div_right _ _ P] at h
    omega
theorem told_in {A B w q : Nat} {V : Rat} (hq : q ≤ w) (h : Enc w A B V) : mkRat ((A / 2 ^ (w - q) : Nat) : Int) (2 ^ q) ≤ V ∧ V ≤ mkRat ((B / 2 ^ (w - q) + 1 : Nat) : Int) (2 ^ q) := by
  have P := p2_pos q
  have R := p2_pos (w - q)
  have a := mk_p2 (A / 2 ^ (w - q)) q
  have b := mk_p2 (B / 2 ^ (w - q) + 1) q
  have f := floor_le (a := A) (d := 2 ^ (w - q))
  have g := le_floor (a := B) (d := 2 ^ (w - q)) (Nat.pow_pos (by omega))
  have e : p2 w = p2 q * p2 (w - q) := by rw [← p2_plus]; congr 1; omega
  obtain ⟨h1, h2⟩ := h
  rw [e, ← Rat.mul_assoc] at h1 h2
  refine ⟨le_by P (le_by R ?_), le_by P (le_by R ?_)⟩
  · rw [a]; exact Rat.le_trans f h1
  · rw [b]; exact Rat.le_trans h2 g
theorem told_thin {A B w p : Nat} (hq : p + 2 ≤ w) (h : B ≤ A + 2 ^ (w - (p + 2))) : (mkRat ((B / 2 ^ (w - (p + 2)) + 1 : Nat) : Int) (2 ^ (p + 2)) - mkRat ((A / 2 ^ (w - (p + 2)) : Nat) : Int) (2 ^ (p + 2))) * p2 p ≤ 1 := by
  have a := mk_p2 (A / 2 ^ (w - (p + 2))) (p + 2)
  have b := mk_p2 (B / 2 ^ (w - (p + 2)) + 1) (p + 2)
  have P : 0 < 2 ^ (w - (p + 2)) := Nat.pow_pos (by omega)
  have d := Nat.div_le_div_right (c := 2 ^ (w - (p + 2))) h
  rw [Nat.add_div_right _ P] at d
  have d2 : B / 2 ^ (w - (p + 2)) + 1 ≤ A / 2 ^ (w - (p + 2)) + 4 := by omega
  have d3 : ((B / 2 ^ (w - (p + 2)) + 1 : Nat) : Rat) ≤ ((A / 2 ^ (w - (p + 2)) : Nat) : Rat) + 4 := by
    have := Ex.castle d2
    rw [Ex.castadd (A / 2 ^ (w - (p + 2))) 4] at this; exact this
  rw [← a, ← b] at d3
  have e : p2 (p + 2) = p2 p * 4 := by rw [p2_plus]; rfl
  rw [e] at d3
  generalize mkRat ((B / 2 ^ (w - (p + 2)) + 1 : Nat) : Int) (2 ^ (p + 2)) = x at *
  generalize mkRat ((A / 2 ^ (w - (p + 2)) : Nat) : Int) (2 ^ (p + 2)) = y at *
  grind
def wSt (W D : Nat) : Nat → Nat → Nat → Nat → Nat → Nat → Nat × Nat × Nat × Nat
  | 0, _, t, d, s, e => (t, d, s, e)
  | f + 1, k, t, d, s, e => pin (k + 2) fun k' => pin (t * W / k + 2) fun t' => pin ((d * W + t * D) / k + 8) fun d' => pin (s + t') fun s' => pin (e + d') fun e' => wSt W D f k' t' d' s' e'
theorem wSt_succ (W D f k t d s e : Nat) : wSt W D (f + 1) k t d s e = wSt W D f (k + 2) (t * W / k + 2) ((d * W + t * D) / k + 8) (s + (t * W / k + 2)) (e + ((d * W + t * D) / k + 8)) := by
  rw [wSt, pin_eq, pin_eq, pin_eq, pin_eq, pin_eq]
theorem wRow_late : ∀ (f k t d s e : Nat), 600 ≤ k → t ≤ 4 → d ≤ 20 → (wRow 129 41 f k t d s e).1 ≤ s + 4 * f ∧ (wRow 129 41 f k t d s e).2 ≤ e + 20 * f
  | 0, k, t, d, s, e, _, _, _ => ⟨Nat.le_refl _, Nat.le_refl _⟩
  | f + 1, k, t, d, s, e, h1, h2, h3 => by
    have a : t * 129 / k ≤ 0 := Nat.le_of_lt_succ ((Nat.div_lt_iff_lt_mul (by omega)).2 (by omega))
    have b : (d * 129 + t * 41) / k ≤ 4 := Nat.le_of_lt_succ ((Nat.div_lt_iff_lt_mul (by omega)).2 (by omega))
    have ih := wRow_late f (k + 2) (t * 129 / k + 2) ((d * 129 + t * 41) / k + 8) (s + (t * 129 / k + 2)) (e + ((d * 129 + t * 41) / k + 8)) (by omega) (by omega) (by omega)
    rw [wRow_succ]
    exact ⟨Nat.le_trans ih.1 (by omega), Nat.le_trans ih.2 (by omega)⟩
theorem wRow_st : ∀ (m f k t d s e : Nat) {t' d' s' e' : Nat}, wSt 129 41 m k t d s e = (t', d', s', e') → t' ≤ 4 → d' ≤ 20 → 600 ≤ k + 2 * m → (wRow 129 41 (m + f) k t d s e).1 ≤ s' + 4 * f ∧ (wRow 129 41 (m + f) k t d s e).2 ≤ e' + 20 * f
  | 0, f, k, t, d, s, e, t', d', s', e', h, h1, h2, h3 => by
    have h' : (t, d, s, e) = (t', d', s', e') := h
    simp only [Prod.mk.injEq] at h'
    obtain ⟨rfl, rfl, rfl, rfl⟩ := h'
    rw [Nat.zero_add]
    exact wRow_late f k t d s e (by omega) h1 h2
  | m + 1, f, k, t, d, s, e, t', d', s', e', h, h1, h2, h3 => by
    rw [wSt_succ] at h
    rw [show m + 1 + f = m + f + 1 by omega, wRow_succ]
    exact wRow_st m f (k + 2) _ _ _ _ h h1 h2 (by omega)
def igR (n : Nat) : Nat × Nat := match wSt 129 41 300 (n + 2) 2 1 2 1 with
  | (_, _, s, e) => (s + 20000, e + 100000)
def igP (n : Nat) : Nat × Nat := if n % 2 = 1 then wPow 129 41 (n / 2) 3 50 400 else wPow 129 41 (n / 2) 2 2 1
def igOk (n : Nat) : Bool := match wSt 129 41 300 (n + 2) 2 1 2 1, igP n with
  | (t', d', s, e), (t, d) => Nat.ble t' 4 && Nat.ble d' 20 && pin (t * (s + 20001) + 1) fun u => pin (d * (s + 20001) + t * (e + 100008) + 2) fun v => Nat.ble (v * 2 + u * 2 + 2) (2 ^ 120)
theorem ig_ok : allFrom igOk 30 1 = true := by kernel_rfl
theorem ig_at {n : Nat} (h1 : 1 ≤ n) (h2 : n ≤ 30) : ((igP n).2 * ((igR n).1 + 1) + (igP n).1 * ((igR n).2 + 8) + 2) * 2 + ((igP n).1 * ((igR n).1 + 1) + 1) * 2 + 2 ≤ 2 ^ 120 ∧
    (wRow 129 41 5200 (n + 2) 2 1 2 1).1 ≤ (igR n).1 ∧ (wRow 129 41 5200 (n + 2) 2 1 2 1).2 ≤ (igR n).2 := by
  have h := allFrom_at ig_ok n h1 (by omega)
  unfold igOk at h
  unfold igR
  have st := fun t' d' s' e' => wRow_st 300 4900 (n + 2) 2 1 2 1 (t' := t') (d' := d') (s' := s') (e' := e')
  rw [show 300 + 4900 = 5200 from rfl] at st
  generalize wRow 129 41 5200 (n + 2) 2 1 2 1 = R at *
  generalize wSt 129 41 300 (n + 2) 2 1 2 1 = r at *
  generalize igP n = q at *
  obtain ⟨t', d', s, e⟩ := r
  obtain ⟨t, d⟩ := q
  generalize 2 ^ 120 = K1 at *
  simp only [pin_eq, Bool.and_eq_true] at h
  obtain ⟨⟨g1, g2⟩, g3⟩ := h
  obtain ⟨a, b⟩ := st t' d' s e rfl (Nat.le_of_ble_eq_true g1) (Nat.le_of_ble_eq_true g2) (by omega)
  exact ⟨Nat.le_of_ble_eq_true g3, Nat.le_trans a (show s + 4 * 4900 ≤ s + 20000 by omega), Nat.le_trans b (show e + 20 * 4900 ≤ e + 100000 by omega)⟩
end Go.Proofs.YtemnjalaincijaaGreat
namespace Go.Ev
end Go.Ev
namespace Go.Proofs.YtemnjalaincijaaGreat
open Go.Ev
end Go.Proofs.YtemnjalaincijaaGreat
namespace Go.Proofs.YtemnjalaincijaaGreat
open Go.Ev
theorem divZ_neg {n d : Nat} (hd : 0 < d) : -(n : Int) / (d : Int) = -((cdv n d : Nat) : Int) := by
  have h := cdZ_nat (n := n) hd
  unfold cdZ at h
  omega
theorem cdZ_neg {n d : Nat} : cdZ (-(n : Int)) d = -((n / d : Nat) : Int) := by
  unfold cdZ
  rw [Int.neg_neg, ← Int.natCast_ediv]
theorem loQ_mix {a b c d : Nat} (h1 : a ≤ b) (h2 : c ≤ d) : loQ a b (-(d : Int)) (-(c : Int)) = -((b * d : Nat) : Int) ∧ hiQ a b (-(d : Int)) (-(c : Int)) = -((a * c : Nat) : Int) := by
  have e1 : a * c ≤ a * d := Nat.mul_le_mul_left _ h2
  have e2 : a * c ≤ b * c := Nat.mul_le_mul_right _ h1
  have e3 : b * c ≤ b * d := Nat.mul_le_mul_left _ h2
  have e4 : a * d ≤ b * d := Nat.mul_le_mul_right _ h1
  unfold loQ loP hiQ hiP mnZ mxZ
  rw [Int.mul_neg, Int.mul_neg, Int.mul_neg, Int.mul_neg, ← Int.natCast_mul, ← Int.natCast_mul, ← Int.natCast_mul, ← Int.natCast_mul]
  generalize a * c = x1 at *
  generalize a * d = x2 at *
  generalize b * c = x3 at *
  generalize b * d = x4 at *
  constructor <;> (repeat' split) <;> omega
theorem loQ_neg {a b c d : Nat} (h1 : a ≤ b) (h2 : c ≤ d) : loQ (-(b : Int)) (-(a : Int)) (-(d : Int)) (-(c : Int)) = ((a * c : Nat) : Int) ∧ hiQ (-(b : Int)) (-(a : Int)) (-(d : Int)) (-(c : Int)) = ((b * d : Nat) : Int) := by
  have e1 : a * c ≤ a * d := Nat.mul_le_mul_left _ h2
  have e2 : a * c ≤ b * c := Nat.mul_le_mul_right _ h1
  have e3 : b * c ≤ b * d := Nat.mul_le_mul_left _ h2
  have e4 : a * d ≤ b * d := Nat.mul_le_mul_right _ h1
  unfold loQ loP hiQ hiP mnZ mxZ
  rw [Int.neg_mul_neg, Int.neg_mul_neg, Int.neg_mul_neg, Int.neg_mul_neg, ← Int.natCast_mul, ← Int.natCast_mul, ← Int.natCast_mul, ← Int.natCast_mul]
  generalize a * c = x1 at *
  generalize a * d = x2 at *
  generalize b * c = x3 at *
  generalize b * d = x4 at *
  constructor <;> (repeat' split) <;> omega
def sgL (i t1 t2 : Nat) : Int := if i % 2 = 1 then (t1 : Int) else -(t2 : Int)
def sgH (i t1 t2 : Nat) : Int := if i % 2 = 1 then (t2 : Int) else -(t1 : Int)
theorem ey_round {w Y1 Y2 i t1 t2 : Nat} {s1 s2 : Int} (hw0 : 0 < w) (hw : w ≤ 4096) (hi : 1 ≤ i) (hi2 : i < 1000000) (h12 : Y1 ≤ Y2) (ht : t1 ≤ t2) (lY : (lim Y2).length ≤ 1000) (lt : (lim t2).length ≤ 1000) (l1 : (lim s1.natAbs).length ≤ 1000) (l2 : (lim s2.natAbs).length ≤ 1000) :
    ∃ V1 V2 : Int, Go.Ev.Fn CX 109 [ivV (sgL i t1 t2) (sgH i t1 t2), ivV (-(Y2 : Int)) (-(Y1 : Int)), .int .i64 (w : Int)] (ivV V1 V2) ∧
      Go.Ev.Fn CX 184 [ivV V1 V2, .int .i64 (i : Int)] (ivV (sgL (i + 1) (t1 * Y1 / 2 ^ w / i) (cdv (cdv (t2 * Y2) (2 ^ w)) i)) (sgH (i + 1) (t1 * Y1 / 2 ^ w / i) (cdv (cdv (t2 * Y2) (2 ^ w)) i))) ∧
      Go.Ev.Fn CX 99 [ivV s1 s2, ivV (sgL (i + 1) (t1 * Y1 / 2 ^ w / i) (cdv (cdv (t2 * Y2) (2 ^ w)) i)) (sgH (i + 1) (t1 * Y1 / 2 ^ w / i) (cdv (cdv (t2 * Y2) (2 ^ w)) i))] (ivV (if i % 2 = 1 then s1 - (cdv (cdv (t2 * Y2) (2 ^ w)) i : Nat) else s1 + (t1 * Y1 / 2 ^ w / i : Nat)) (if i % 2 = 1 then s2 - (t1 * Y1 / 2 ^ w / i : Nat) else s2 + (cdv (cdv (t2 * Y2) (2 ^ w)) i : Nat))) ∧
      Go.Ev.Fn CX 185 [ivV (sgL (i + 1) (t1 * Y1 / 2 ^ w / i) (cdv (cdv (t2 * Y2) (2 ^ w)) i)) (sgH (i + 1) (t1 * Y1 / 2 ^ w / i) (cdv (cdv (t2 * Y2) (2 ^ w)) i))] (intN (cdv (cdv (t2 * Y2) (2 ^ w)) i)) := by
  have P : 0 < 2 ^ w := Nat.pow_pos (by omega)
  have lt1 := lim_len_mono ht
  have lY1 := lim_len_mono h12
  have z := lim_len_mul (a := t2) (b := Y2)
  have lv2 := lim_len_mono (cdv_self (t2 * Y2) P)
  have v12 : t1 * Y1 / 2 ^ w ≤ cdv (t2 * Y2) (2 ^ w) := div_le_cdv P (Nat.mul_le_mul ht h12)
  have lv1 := lim_len_mono v12
  have u12 : t1 * Y1 / 2 ^ w / i ≤ cdv (cdv (t2 * Y2) (2 ^ w)) i := div_le_cdv hi v12
  have lu2 := lim_len_mono (cdv_self (cdv (t2 * Y2) (2 ^ w)) hi)
  have lu1 := lim_len_mono u12
  by_cases g : i % 2 = 1
  · have eL : sgL i t1 t2 = (t1 : Int) := if_pos g
    have eH : sgH i t1 t2 = (t2 : Int) := if_pos g
    have pr := ref4_Prod (a := (t1 : Int)) (b := (t2 : Int)) (c := -(Y2 : Int)) (d := -(Y1 : Int)) (w := w) (by rw [Int.natAbs_natCast]; omega) (by rw [Int.natAbs_natCast]; omega) (by rw [Int.natAbs_neg, Int.natAbs_natCast]; omega) (by rw [Int.natAbs_neg, Int.natAbs_natCast]; omega) hw hw0
    rw [(loQ_mix ht h12).1, (loQ_mix ht h12).2, divZ_neg P, cdZ_neg] at pr
    have e1 : sgL (i + 1) (t1 * Y1 / 2 ^ w / i) (cdv (cdv (t2 * Y2) (2 ^ w)) i) = -((cdv (cdv (t2 * Y2) (2 ^ w)) i : Nat) : Int) := if_neg (by omega)
    have e2 : sgH (i + 1) (t1 * Y1 / 2 ^ w / i) (cdv (cdv (t2 * Y2) (2 ^ w)) i) = -((t1 * Y1 / 2 ^ w / i : Nat) : Int) := if_neg (by omega)
    rw [eL, eH, e1, e2, if_pos g, if_pos g]
    generalize cdv (t2 * Y2) (2 ^ w) = v2 at *
    generalize t1 * Y1 / 2 ^ w = v1 at *
    have by1 := ref4_By (a := -(v2 : Int)) (b := -(v1 : Int)) (by rw [Int.natAbs_neg, Int.natAbs_natCast]; omega) (by rw [Int.natAbs_neg, Int.natAbs_natCast]; omega) i hi (by omega)
    rw [divZ_neg hi, cdZ_neg] at by1
    generalize cdv v2 i = u2 at *
    generalize v1 / i = u1 at *
    have sm := ref4_Sum (a := s1) (b := s2) (c := -(u2 : Int)) (d := -(u1 : Int)) (by omega) (by omega) (by rw [Int.natAbs_neg, Int.natAbs_natCast]; omega) (by rw [Int.natAbs_neg, Int.natAbs_natCast]; omega)
    have mo := ref4_Most (a := -(u2 : Int)) (b := -(u1 : Int)) (by rw [Int.natAbs_neg, Int.natAbs_natCast]; omega) (by rw [Int.natAbs_neg, Int.natAbs_natCast]; omega)
    rw [Int.natAbs_neg, Int.natAbs_neg, Int.natAbs_natCast, Int.natAbs_natCast, Nat.max_eq_left u12, intN_eq] at mo
    rw [← Int.sub_eq_add_neg, ← Int.sub_eq_add_neg] at sm
    exact ⟨_, _, pr, by1, sm, mo⟩
  · have eL : sgL i t1 t2 = -(t2 : Int) := if_neg g
    have eH : sgH i t1 t2 = -(t1 : Int) := if_neg g
    have pr := ref4_Prod (a := -(t2 : Int)) (b := -(t1 : Int)) (c := -(Y2 : Int)) (d := -(Y1 : Int)) (w := w) (by rw [Int.natAbs_neg, Int.natAbs_natCast]; omega) (by rw [Int.natAbs_neg, Int.natAbs_natCast]; omega) (by rw [Int.natAbs_neg, Int.natAbs_natCast]; omega) (by rw [Int.natAbs_neg, Int.natAbs_natCast]; omega) hw hw0
    rw [(loQ_neg ht h12).1, (loQ_neg ht h12).2, cdZ_nat P, ← Int.natCast_ediv] at pr
    have e1 : sgL (i + 1) (t1 * Y1 / 2 ^ w / i) (cdv (cdv (t2 * Y2) (2 ^ w)) i) = ((t1 * Y1 / 2 ^ w / i : Nat) : Int) := if_pos (by omega)
    have e2 : sgH (i + 1) (t1 * Y1 / 2 ^ w / i) (cdv (cdv (t2 * Y2) (2 ^ w)) i) = ((cdv (cdv (t2 * Y2) (2 ^ w)) i : Nat) : Int) := if_pos (by omega)
    rw [eL, eH, e1, e2, if_neg g, if_neg g]
    generalize cdv (t2 * Y2) (2 ^ w) = v2 at *
    generalize t1 * Y1 / 2 ^ w = v1 at *
    have by1 := ref4_By (a := (v1 : Int)) (b := (v2 : Int)) (by rw [Int.natAbs_natCast]; omega) (by rw [Int.natAbs_natCast]; omega) i hi (by omega)
    rw [cdZ_nat hi, ← Int.natCast_ediv] at by1
    generalize cdv v2 i = u2 at *
    generalize v1 / i = u1 at *
    have sm := ref4_Sum (a := s1) (b := s2) (c := (u1 : Int)) (d := (u2 : Int)) (by omega) (by omega) (by rw [Int.natAbs_natCast]; omega) (by rw [Int.natAbs_natCast]; omega)
    have mo := ref4_Most (a := (u1 : Int)) (b := (u2 : Int)) (by rw [Int.natAbs_natCast]; omega) (by rw [Int.natAbs_natCast]; omega)
    rw [Int.natAbs_natCast, Int.natAbs_natCast, Nat.max_eq_right u12, intN_eq] at mo
    exact ⟨_, _, pr, by1, sm, mo⟩
section
variable {w Y1 Y2 : Nat}
set_option maxHeartbeats 1000000 in
theorem ref6_row (hw0 : 64 ≤ w) (hw : w ≤ 900) (hY : 4 * Y2 ≤ 2 ^ w) (h12 : Y1 ≤ Y2) : ∃ A B : Nat, 0 < A ∧ A ≤ B ∧ B ≤ 2 ^ (w + 1) ∧ nRow w Y1 Y2 (w / 2 + 3) 1 (2 ^ w) (2 ^ w) (2 ^ w : Nat) (2 ^ w : Nat) = some ((A : Int), (B : Int)) ∧
    Go.Ev.Fn CX 145 [ivV (-(Y2 : Int)) (-(Y1 : Int)), .int .i64 (w : Int)] (ivN A B) := by
  have i0 := nInv_0 w
  have big : 64 * 64 ≤ 2 ^ w := Nat.le_trans (show 64 * 64 ≤ 2 ^ 64 by decide) (Nat.pow_le_pow_right (by omega) hw0)
  have bw : 16 * w ≤ 2 ^ w := by
    have h1 : 16 * w ≤ 2 ^ 14 := by omega
    exact Nat.le_trans h1 (Nat.pow_le_pow_right (by omega) (by omega))
  obtain ⟨A', B', hr, hAB, hA, hB⟩ := nRow_end (w := w) hY h12 (w / 2 + 1) (w / 2 + 3) 1 (2 ^ w) (2 ^ w) _ _ i0 (by
    have e : 4 ^ (w / 2 + 1) = 2 ^ (2 * (w / 2 + 1)) := by rw [Nat.pow_mul]
    rw [e]
    have := Nat.pow_le_pow_right (n := 2) (by omega) (show w ≤ 2 * (w / 2 + 1) by omega)
    omega) (by omega)
  obtain ⟨A, rfl⟩ : ∃ A : Nat, A' = (A : Int) := ⟨A'.toNat, by omega⟩
  obtain ⟨B, rfl⟩ : ∃ B : Nat, B' = (B : Int) := ⟨B'.toNat, by omega⟩
  have e1 : 2 ^ (w + 1) = 2 ^ w * 2 := Nat.pow_succ _ _
  refine ⟨A, B, by omega, by omega, by omega, hr, ?_⟩
  have lp := lim_len_p2 (n := 2 ^ w) (w := w) (Nat.le_refl _) (by omega)
  have lY : (lim Y2).length ≤ 40 := lim_len_p2 (w := w) (by omega) (by omega)
  have lens := fun (i t1 t2 : Nat) (s1 s2 : Int) (hi : i ≤ w) (h : nInv w i t1 t2 s1 s2) => (show (lim t2).length ≤ 40 ∧ (lim s1.natAbs).length ≤ 80 ∧ (lim s2.natAbs).length ≤ 80 ∧ t1 ≤ t2 ∧ 1 ≤ i from by
    obtain ⟨q1, q2, q3, q4, q5, q6⟩ := h
    exact ⟨lim_len_p2 q3 (by omega), Nat.le_trans (lim_len_p2 (w := w + 1) (by omega) (by omega)) (by omega), Nat.le_trans (lim_len_p2 (w := w + 1) (by omega) (by omega)) (by omega), q2, q1⟩)
  have step := fun (i t1 t2 : Nat) (s1 s2 : Int) (h : nInv w i t1 t2 s1 s2) => nInv_step (Y1 := Y1) hY h12 h
  have n1 := ref4_NumN (w := w) (RatA_rv (one_szR')) (by omega) (by omega) (by omega) (show (0 : Rat) ≤ 1 by decide)
  have u1 : unN 1 w = 2 ^ w := by show 1 * 2 ^ w / 1 = _; rw [Nat.one_mul, Nat.div_one]
  have u2 : upN 1 w = 2 ^ w := by show cdv (1 * 2 ^ w) 1 = _; unfold cdv; rw [Nat.one_mul, Nat.div_one]; omega
  rw [u1, u2] at n1
  have i1 := ref2_Int 1 (by omega)
  rw [show ((1 : Int) : Rat) = 1 from rfl] at i1
  have w2 := ref4_Whole 2 (by omega)
  rw [show (2 : Int) = ((2 : Nat) : Int) from rfl, intN_eq] at w2
  have l2 : (lim 2).length ≤ 1 := lim_len_one (by decide)
  have b0 : decide ((((2 ^ w : Nat) : Int)) < 0) = false := decide_eq_false (by omega)
  obtain ⟨yn1, hyn1⟩ : ∃ z : Int, z = -(Y2 : Int) := ⟨_, rfl⟩
  obtain ⟨yn2, hyn2⟩ : ∃ z : Int, z = -(Y1 : Int) := ⟨_, rfl⟩
  have rnd := fun (i t1 t2 : Nat) (s1 s2 : Int) => ey_round (w := w) (Y1 := Y1) (Y2 := Y2) (i := i) (t1 := t1) (t2 := t2) (s1 := s1) (s2 := s2) (by omega) (by omega)
  rw [← hyn1, ← hyn2] at rnd ⊢
  clear u1 u2 hA hB hAB e1 big bw
  refine Go.Ev.Fn.intro (fn := Tryz.f145) (body := (Tryz.f145).body.get!) (by kernel_rfl) (by kernel_rfl) (by kernel_rfl) (fun _ => rfl) (Nat.le_of_ble_eq_true (by kernel_rfl)) ?_; unfold Tryz.f145; simp only [Option.get!_some]
  repeat (first | (simp only [go_sem, Nat.reduceEqDiff, Nat.reduceAdd, Nat.reduceSub, Nat.reduceMul, Nat.reduceLeDiff, Nat.reduceLT, reduceIte, reduceCtorEq, Nat.succ_ne_zero, elemsC, Int.reduceToNat, Nat.reducePow]) | (simp (disch := (first | omega | (simp only [AL, List.length_map]; omega))) only [AR, AL, ifT, ifF, take_all, List.length_cons, List.length_nil, Int.reduceToNat, Int.reducePow, Nat.reducePow]) | (refine wk_intro (by kernel_rfl) ?_) | (refine vp_draw (id := 2) (l := []) (by kernel_rfl) ?_) | (refine vf_of (by first | exact i1 | exact n1) ?_))
  refine vp_loop_inv (fun s => s.tmp 1 = .sv (.int .i64 (w : Int)) ∧ s.tmp 2 = .ptr 2 0 0 ∧ s.obj 2 0 = some [.bool (decide (yn1 < 0)), natV (lim yn1.natAbs), .bool (decide (yn2 < 0)), natV (lim yn2.natAbs)] ∧ s.tmp 4 = .ptr 4 0 0 ∧ s.obj 4 0 = some [.bool false, .sl 0 [], .bool false, .sl 0 []] ∧ s.tmp 6 = .ptr 6 0 0 ∧ s.tmp 7 = .ptr 7 0 0 ∧
      ∃ f i t1 t2 : Nat, ∃ s1 s2 : Int, s.tmp 8 = .sv (.int .i64 (i : Int)) ∧ f + i = w / 2 + 4 ∧ nRow w Y1 Y2 f i t1 t2 s1 s2 = some ((A : Int), (B : Int)) ∧ s.obj 6 0 = some [.bool (decide (s1 < 0)), natV (lim s1.natAbs), .bool (decide (s2 < 0)), natV (lim s2.natAbs)] ∧ s.obj 7 0 = some [.bool (decide (sgL i t1 t2 < 0)), natV (lim (sgL i t1 t2).natAbs), .bool (decide (sgH i t1 t2 < 0)), natV (lim (sgH i t1 t2).natAbs)] ∧ nInv w i t1 t2 s1 s2)
    (fun s => match s.tmp 8 with | .sv (.int _ i) => w / 2 + 5 - i.toNat | _ => 0) ⟨rfl, rfl, rfl, rfl, rfl, rfl, rfl, _, 1, _, _, _, _, rfl, by omega, hr, by rw [b0, Int.natAbs_natCast]; rfl, by rw [show sgL 1 (2 ^ w) (2 ^ w) = ((2 ^ w : Nat) : Int) from rfl, show sgH 1 (2 ^ w) (2 ^ w) = ((2 ^ w : Nat) : Int) from rfl, b0, Int.natAbs_natCast]; rfl, i0⟩ ?_
  rintro s ⟨i1', i2, o2, i4, o4, i6, i7, f, i, t1, t2, s1, s2, i8, hfi, hgo, o6, o7, hok⟩
  obtain ⟨lt2, ls1, ls2, t12, hi1⟩ := lens i t1 t2 s1 s2 (by omega) hok
  have st := step i t1 t2 s1 s2 hok
  cases f with
  | zero => simp only [nRow] at hgo; cases hgo
  | succ f =>
    obtain ⟨V1, V2, pr, by1, sm, mo⟩ := rnd i t1 t2 s1 s2 hi1 (by omega) h12 t12 (by omega) (by omega) (by omega) (by omega)
    obtain ⟨lu2, lz1, lz2, -, -⟩ := lens (i + 1) _ _ _ _ (by omega) st
    rw [nRow] at hgo
    generalize (if i % 2 = 1 then s1 - (cdv (cdv (t2 * Y2) (2 ^ w)) i : Nat) else s1 + (t1 * Y1 / 2 ^ w / i : Nat)) = z1 at *
    generalize (if i % 2 = 1 then s2 - (t1 * Y1 / 2 ^ w / i : Nat) else s2 + (cdv (cdv (t2 * Y2) (2 ^ w)) i : Nat)) = z2 at *
    generalize t1 * Y1 / 2 ^ w / i = u1 at *
    generalize cdv (cdv (t2 * Y2) (2 ^ w)) i = u2 at *
    have cc := ref4_CmpN (a := u2) (b := 2) (by omega) (by omega)
    have ec : decide (cmpZ ((u2 : Nat) : Int) ((2 : Nat) : Int) ≤ 0) = decide (u2 ≤ 2) := by rw [cmpZ_le]; exact decide_eq_decide.2 (by omega)
    generalize cmpZ ((u2 : Nat) : Int) ((2 : Nat) : Int) = cz at *
    have wd := ref4_Wide (a := z1) (b := z2) (by omega) (by omega) 4 (by omega)
    clear lens step rnd hr
    by_cases hu : u2 ≤ 2
    · rw [decide_eq_true hu] at ec
      rw [if_pos hu] at hgo
      simp only [Option.some.injEq, Prod.mk.injEq] at hgo
      rw [hgo.1, hgo.2, ivN_eq] at wd
      clear hgo st
      generalize sgL (i + 1) u1 u2 = T1 at *
      generalize sgH (i + 1) u1 u2 = T2 at *
      repeat (first | (simp only [go_sem, Nat.reduceEqDiff, Nat.reduceAdd, Nat.reduceSub, Nat.reduceMul, Nat.reduceLeDiff, Nat.reduceLT, reduceIte, reduceCtorEq, Nat.succ_ne_zero, elemsC, Int.reduceToNat, Nat.reducePow, i1', i2, o2, i4, o4, i6, i7, i8, o6, o7, ec]) | (simp (disch := (first | omega | (simp only [AL, List.length_map]; omega))) only [AR, AL, ifT, ifF, take_all, List.length_cons, List.length_nil, Int.reduceToNat, Int.reducePow, Nat.reducePow, i1', i2, o2, i4, o4, i6, i7, i8, o6, o7, ec]) | (refine wk_intro (by kernel_rfl) ?_) | (refine vp_draw (id := 2) (l := []) (by kernel_rfl) ?_) | (refine vf_of (by first | exact pr | exact by1 | exact sm | exact mo | exact w2 | exact cc | exact wd) ?_))
    · rw [decide_eq_false hu] at ec
      rw [if_neg hu] at hgo
      have fin : ∀ T1 T2 : Int, T1 = sgL (i + 1) u1 u2 → T2 = sgH (i + 1) u1 u2 → (∃ f' i' t1 t2 : Nat, ∃ s1 s2 : Int, TV.sv (.int .i64 ((i + 1 : Nat) : Int)) = .sv (.int .i64 (i' : Int)) ∧ f' + i' = w / 2 + 4 ∧ nRow w Y1 Y2 f' i' t1 t2 s1 s2 = some ((A : Int), (B : Int)) ∧ [SV.bool (decide (z1 < 0)), natV (lim z1.natAbs), .bool (decide (z2 < 0)), natV (lim z2.natAbs)] = [.bool (decide (s1 < 0)), natV (lim s1.natAbs), .bool (decide (s2 < 0)), natV (lim s2.natAbs)] ∧ [SV.bool (decide (T1 < 0)), natV (lim T1.natAbs), .bool (decide (T2 < 0)), natV (lim T2.natAbs)] = [.bool (decide (sgL i' t1 t2 < 0)), natV (lim (sgL i' t1 t2).natAbs), .bool (decide (sgH i' t1 t2 < 0)), natV (lim (sgH i' t1 t2).natAbs)] ∧ nInv w i' t1 t2 s1 s2) := by
        rintro T1 T2 rfl rfl
        exact ⟨f, i + 1, u1, u2, z1, z2, rfl, by omega, hgo, rfl, rfl, st⟩
      have fin2 := fin _ _ rfl rfl
      clear fin hgo st
      generalize sgL (i + 1) u1 u2 = T1 at *
      generalize sgH (i + 1) u1 u2 = T2 at *
      repeat (first | (simp only [go_sem, Nat.reduceEqDiff, Nat.reduceAdd, Nat.reduceSub, Nat.reduceMul, Nat.reduceLeDiff, Nat.reduceLT, reduceIte, reduceCtorEq, Nat.succ_ne_zero, elemsC, Int.reduceToNat, Nat.reducePow, i1', i2, o2, i4, o4, i6, i7, i8, o6, o7, ec]) | (simp (disch := (first | omega | (simp only [AL, List.length_map]; omega))) only [AR, AL, ifT, ifF, take_all, List.length_cons, List.length_nil, Int.reduceToNat, Int.reducePow, Nat.reducePow, i1', i2, o2, i4, o4, i6, i7, i8, o6, o7, ec]) | (refine wk_intro (by kernel_rfl) ?_) | (refine vp_draw (id := 2) (l := []) (by kernel_rfl) ?_) | (refine vf_of (by first | exact pr | exact by1 | exact sm | exact mo | exact w2 | exact cc) ?_))
      exact ⟨fin2, by omega⟩
theorem neg_numE (y : Rat) (h : 0 ≤ y) : (-y).num = -((y.num.natAbs : Nat) : Int) := by rw [Rat.neg_num, num_abs h]
theorem ref4_NumNeg {v : SV} {y : Rat} {L : Nat} (hv : RatA v (-y) L) (hL1 : 1 ≤ L) (hL : L ≤ 100000) (hw : w ≤ 4096) (h0 : 0 ≤ y) : Go.Ev.Fn CX 98 [v, .int .i64 (w : Int)] (ivV (-((upN y w : Nat) : Int)) (-((unN y w : Nat) : Int))) := by
  have h := ref4_Num hv hL1 hL hw
  rw [neg_numE y h0, Rat.neg_den, Int.neg_mul, ← Int.natCast_mul, divZ_neg y.den_pos, cdZ_neg] at h
  exact h
theorem sq_one : Enc w (2 ^ w) (2 ^ w) 1 := ⟨by rw [Rat.one_mul]; exact Rat.le_refl, by rw [Rat.one_mul]; exact Rat.le_refl⟩
set_option maxHeartbeats 1000000 in
theorem ref6_IvX {v : SV} {x : Rat} {L : Nat} (hv : RatA v x L) (hL1 : 1 ≤ L) (hL : L ≤ 50) (h0 : x ≤ 0) (h64 : -64 ≤ x) (hw : w ≤ 600) :
    ∃ A B : Nat, A ≤ B ∧ B ≤ 2 ^ (w + 130 + 256) ∧ Go.Ev.Fn CX 88 [v, .int .i64 (w : Int)] (ivN A B) ∧ (∃ s, ∀ L, s ≤ L → Enc w A B (evX x L)) ∧
      ∃ A0 B0 : Nat, nRow (w + 130) (unN (-x * (1 / 256)) (w + 130)) (upN (-x * (1 / 256)) (w + 130)) ((w + 130) / 2 + 3) 1 (2 ^ (w + 130)) (2 ^ (w + 130)) (2 ^ (w + 130) : Nat) (2 ^ (w + 130) : Nat) = some ((A0 : Int), (B0 : Int)) ∧ A = (sqn (w + 130) 8 A0 B0).1 / 2 ^ 130 ∧ B = cdv (sqn (w + 130) 8 A0 B0).2 (2 ^ 130) := by
  obtain ⟨W, hW, hw1, hw2, hwi⟩ : ∃ W : Nat, (∀ Q : Nat → Prop, Q W → Q (w + 130)) ∧ 130 ≤ W ∧ W ≤ 730 ∧ (w : Int) + 130 = (W : Int) := ⟨w + 130, fun Q h => h, by omega, by omega, rfl⟩
  obtain ⟨y, hy⟩ : ∃ y : Rat, y = -x * (1 / 256) := ⟨_, rfl⟩
  have h256 : (1 / 256 : Rat) * 256 = 1 := by decide +kernel
  have y256 : ((256 : Nat) : Rat) * y = -x := by rw [hy, show ((256 : Nat) : Rat) = 256 from rfl]; grind
  have y0 : 0 ≤ y := by rw [hy]; exact Rat.mul_nonneg (by grind) (by decide +kernel)
  have y4 : y * ((4 : Nat) : Rat) ≤ ((1 : Nat) : Rat) := by
    rw [show ((4 : Nat) : Rat) = 4 from rfl, show ((1 : Nat) : Rat) = 1 from rfl]
    rw [show ((256 : Nat) : Rat) = 256 from rfl] at y256
    grind
  have yh : (y + y) + (y + y) ≤ 1 := by
    rw [show ((4 : Nat) : Rat) = 4 from rfl, show ((1 : Nat) : Rat) = 1 from rfl] at y4
    grind
  have xy : x * mkRat 1 (2 ^ 8) = -y := by
    rw [show mkRat 1 (2 ^ 8) = (1 / 256 : Rat) by decide +kernel, hy]; grind
  have zx := szR_of hv hL1
  have z8 : szR (mkRat 1 (2 ^ 8)) 1 := ⟨lim_len_lt (by decide +kernel), lim_len_lt (by decide +kernel)⟩
  have zq := szR_mul zx z8 hL1
  have mu := ref2_Mul hv (RatA_rv z8) hL1 (by omega) (by omega)
  rw [xy] at mu zq
  have nm := ref4_NumNeg (w := W) (RatA_rv zq) (by omega) (by omega) (by omega) y0
  have sh := ref1_shl (N := 1) (m := 8) (by rw [lim_one]; simp) (by omega)
  rw [Nat.one_mul, lim_one] at sh
  have l := lim_len_shl (a := 1) (n := 8)
  have l1 := lim_len1
  rw [Nat.one_mul] at l
  have of := ref2_OfL (s := false) (n := 1) (d := 2 ^ 8) (by omega) (by omega)
  rw [lim_one, show sgn false 1 = 1 from rfl] at of
  have hY : 4 * upN y W ≤ 2 ^ W := by
    have e : 2 ^ W = 2 ^ (W - 2) * 4 := by rw [show (4 : Nat) = 2 ^ 2 from rfl, ← Nat.pow_add]; congr 1; omega
    have := upN_le (w := W) (c := 2 ^ (W - 2)) y0 y4 (by omega) (by omega)
    omega
  obtain ⟨A0, B0, a1, a2, a3, hr, fr⟩ := ref6_row (w := W) (by omega) (by omega) hY (un_up W)
  have E1 : Ex.E (-y) 1 = 1 := by show (0 : Rat) + 1 = 1; decide +kernel
  obtain ⟨s1, hs⟩ := nRow_enc (num_enc y0 W) yh _ 0 _ _ _ _ _ _ hr sq_one (by rw [E1]; exact sq_one)
  have en : ∀ L, s1 ≤ L → Enc W A0 B0 (1 / Ex.E y L) := fun L hL => hs L hL
  have en8 := fun L hL => sqn_enc (w := W) 8 A0 B0 _ (en L hL)
  obtain ⟨s2, hs2⟩ := inv_far (x := -x) (j := 2 ^ 8) (by omega) y0 (by rw [show (2 : Nat) ^ 8 = 256 from rfl]; exact y256) en8
  have st : ∀ (k lo hi c : Nat), lo ≤ hi → hi ≤ 2 ^ (W + c) → c ≤ 128 → (Go.Ev.Fn CX 109 [ivN lo hi, ivN lo hi, .int .i64 (W : Int)] (ivN (lo * lo / 2 ^ W) (cdv (hi * hi) (2 ^ W)))) ∧ lo * lo / 2 ^ W ≤ cdv (hi * hi) (2 ^ W) ∧ cdv (hi * hi) (2 ^ W) ≤ 2 ^ (W + (c + c)) := by
    intro k lo hi c q1 q2 q3
    obtain ⟨m1, m2⟩ := sqn_step q1 q2
    have lh := lim_len_p2 q2 (by omega)
    exact ⟨ref4_ProdN q1 q1 (by omega) (by omega) (by omega) (by omega), m1, m2⟩
  have fin : ∀ (k lo hi c : Nat), lo ≤ hi → hi ≤ 2 ^ (W + c) → c * 2 ^ k ≤ 256 → (sqn W k lo hi).1 ≤ (sqn W k lo hi).2 ∧ (sqn W k lo hi).2 ≤ 2 ^ (W + 256) := by
    intro k
    induction k with
    | zero => intro lo hi c q1 q2 q3; exact ⟨q1, Nat.le_trans q2 (Nat.pow_le_pow_right (by omega) (by omega))⟩
    | succ k ih =>
      intro lo hi c q1 q2 q3
      obtain ⟨m1, m2⟩ := sqn_step q1 q2
      refine ih _ _ (c + c) m1 m2 ?_
      rw [Nat.pow_succ, ← Nat.mul_two] at *
      rw [Nat.mul_assoc, Nat.mul_comm 2]; exact q3
  obtain ⟨R1, R2, hR⟩ : ∃ R1 R2 : Nat, sqn W 8 A0 B0 = (R1, R2) := ⟨_, _, rfl⟩
  obtain ⟨f1, f2⟩ := fin 8 A0 B0 1 a2 a3 (by omega)
  rw [hR] at f1 f2 hs2
  simp only at f1 f2 hs2
  have lR2 := lim_len_p2 f2 (by omega)
  have lR1 := lim_len_mono f1
  have bk := ref4_BackN (a := R1) (b := R2) (n := 130) (by omega) (by omega) (by omega) (by omega)
  have o12 := div_le_cdv (d := 2 ^ 130) (Nat.two_pow_pos 130) f1
  have f2' : R2 ≤ 2 ^ (w + 130 + 256) := hW (fun W => R2 ≤ 2 ^ (W + 256)) f2
  refine ⟨R1 / 2 ^ 130, cdv R2 (2 ^ 130), o12, Nat.le_trans (cdv_self R2 (Nat.two_pow_pos 130)) f2', ?_, ⟨s2 + 1, fun L hL => ?_⟩, ?_⟩
  rotate_left
  · have e : evX x L = 1 / Ex.E (-x) L := by
      unfold evX
      by_cases g : x < 0
      · rw [if_pos g]
      · rw [if_neg g]
        have x0 : x = 0 := Rat.le_antisymm h0 (Rat.not_lt.1 g)
        subst x0
        obtain ⟨k, rfl⟩ : ∃ k, L = k + 1 := ⟨L - 1, by omega⟩
        rw [Rat.neg_zero, Ex.E_zero]; decide +kernel
    rw [e]
    exact enc_backN (w := w) (n := 130) (hW (fun W => Enc W R1 R2 (1 / Ex.E (-x) L)) (hs2 L (by omega)))
  · have := hW (fun W => nRow W (unN (-x * (1 / 256)) W) (upN (-x * (1 / 256)) W) (W / 2 + 3) 1 (2 ^ W) (2 ^ W) (2 ^ W : Nat) (2 ^ W : Nat) = some ((A0 : Int), (B0 : Int)) ∧ sqn W 8 A0 B0 = (R1, R2)) ⟨by rw [← hy]; exact hr, hR⟩
    exact ⟨A0, B0, this.1, by rw [this.2], by rw [this.2]⟩
  · clear en en8 hs hs2 hr fin f2' o12
    obtain ⟨s0, n0, d0, rfl, -⟩ := hv
    generalize hyn1 : -((upN y W : Nat) : Int) = yn1 at *
    generalize hyn2 : -((unN y W : Nat) : Int) = yn2 at *
    generalize R1 / 2 ^ 130 = O1 at *
    generalize cdv R2 (2 ^ 130) = O2 at *
    generalize mkRat 1 (2 ^ 8) = q8 at *
    generalize 2 ^ 8 = P8 at *
    generalize -y = my at *
    refine Go.Ev.Fn.intro (fn := Tryz.f88) (body := (Tryz.f88).body.get!) (by kernel_rfl) (by kernel_rfl) (by kernel_rfl) (fun _ => rfl) (Nat.le_of_ble_eq_true (by kernel_rfl)) ?_; unfold Tryz.f88; simp only [Option.get!_some]
    repeat (first | (simp only [go_sem, Nat.reduceEqDiff, Nat.reduceAdd, Nat.reduceSub, Nat.reduceMul, Nat.reduceLeDiff, Nat.reduceLT, reduceIte, reduceCtorEq, Nat.succ_ne_zero, elemsC, Int.reduceToNat, Nat.reducePow, hwi]) | (simp (disch := (first | omega | (simp only [AL, List.length_map]; omega))) only [AR, AL, ifT, ifF, take_all, List.length_cons, List.length_nil, Int.reduceToNat, Int.reducePow, Nat.reducePow, hwi]) | (refine wk_intro (by kernel_rfl) ?_) | (refine vp_draw (id := 3) (l := [12, 11, 14]) (by kernel_rfl) ?_) | (refine vf_of (by first | exact sh | exact of | exact mu | exact nm | exact fr) ?_))
    refine vp_loop_inv (fun s => s.tmp 1 = .sv (.int .i64 (w : Int)) ∧ s.tmp 4 = .ptr 4 0 0 ∧ s.obj 4 0 = some [.bool false, .sl 0 [], .bool false, .sl 0 []] ∧ s.tmp 5 = .sv (.int .i64 130) ∧ s.tmp 6 = .sv (.int .i64 8) ∧ s.tmp 8 = .ptr 8 0 0 ∧
        ∃ k lo hi c : Nat, s.tmp 9 = .sv (.int .i64 ((8 - k : Nat) : Int)) ∧ k ≤ 8 ∧ s.obj 8 0 = some [.bool false, natV (lim lo), .bool false, natV (lim hi)] ∧ sqn W k lo hi = (R1, R2) ∧ lo ≤ hi ∧ hi ≤ 2 ^ (W + c) ∧ c * 2 ^ k ≤ 256)
      (fun s => match s.tmp 9 with | .sv (.int _ i) => 9 - i.toNat | _ => 0) ⟨rfl, rfl, rfl, rfl, rfl, rfl, 8, A0, B0, 1, rfl, by omega, rfl, hR, a2, a3, by omega⟩ ?_
    rintro s ⟨i1, i4, o4, i5, i6, i8, k, lo, hi, c, i9, hk, o8, hsq, g1, g2, g3⟩
    cases k with
    | zero =>
      have hsq' : (lo, hi) = (R1, R2) := hsq
      simp only [Prod.mk.injEq] at hsq'
      obtain ⟨rfl, rfl⟩ := hsq'
      repeat (first | (simp only [go_sem, Nat.reduceEqDiff, Nat.reduceAdd, Nat.reduceSub, Nat.reduceMul, Nat.reduceLeDiff, Nat.reduceLT, reduceIte, reduceCtorEq, Nat.succ_ne_zero, elemsC, Int.reduceToNat, Nat.reducePow, i1, i4, o4, i5, i6, i8, i9, o8, hwi]) | (simp (disch := (first | omega | (simp only [AL, List.length_map]; omega))) only [AR, AL, ifT, ifF, take_all, List.length_cons, List.length_nil, Int.reduceToNat, Int.reducePow, Nat.reducePow, i1, i4, o4, i5, i6, i8, i9, o8, hwi]) | (refine wk_intro (by kernel_rfl) ?_) | (refine vp_draw (id := 3) (l := [12, 11, 14]) (by kernel_rfl) ?_) | (refine vf_of (by first | exact bk) ?_))
    | succ k =>
      have c128 : c ≤ 128 := by
        rw [Nat.pow_succ, ← Nat.mul_assoc] at g3
        have := Nat.le_mul_of_pos_right c (show 0 < 2 ^ k from Nat.pow_pos (by omega))
        omega
      obtain ⟨mu2, m1, m2⟩ := st k lo hi c g1 g2 c128
      have hsq' : sqn W k (lo * lo / 2 ^ W) (cdv (hi * hi) (2 ^ W)) = (R1, R2) := hsq
      clear hsq st
      generalize lo * lo / 2 ^ W = lo' at *
      generalize cdv (hi * hi) (2 ^ W) = hi' at *
      have g3' : (c + c) * 2 ^ k ≤ 256 := by
        rw [Nat.pow_succ, Nat.mul_comm _ 2, ← Nat.mul_assoc, Nat.mul_two] at g3; exact g3
      repeat (first | (simp only [go_sem, Nat.reduceEqDiff, Nat.reduceAdd, Nat.reduceSub, Nat.reduceMul, Nat.reduceLeDiff, Nat.reduceLT, reduceIte, reduceCtorEq, Nat.succ_ne_zero, elemsC, Int.reduceToNat, Nat.reducePow, i1, i4, o4, i5, i6, i8, i9, o8, hwi]) | (simp (disch := (first | omega | (simp only [AL, List.length_map]; omega))) only [AR, AL, ifT, ifF, take_all, List.length_cons, List.length_nil, Int.reduceToNat, Int.reducePow, Nat.reducePow, i1, i4, o4, i5, i6, i8, i9, o8, hwi]) | (refine wk_intro (by kernel_rfl) ?_) | (refine vp_draw (id := 3) (l := [12, 11, 14]) (by kernel_rfl) ?_) | (refine vf_of (by first | exact mu2) ?_))
      exact ⟨⟨k, lo', hi', c + c, by congr 2; omega, by omega, rfl, hsq', m1, m2, g3'⟩, by omega⟩
end
end Go.Proofs.YtemnjalaincijaaGreat
namespace Go.Proofs.YtemnjalaincijaaGreat
open Go.Ev
theorem by_ok {N D w : Nat} (hD : 0 < D) (hN : N ≤ 64 * D) (hw : 8 ≤ w) : N * 2 ^ w / D * 2 / 1 ≤ (N * 2 ^ w / D + 1) * 2 / 1 + 1 ∧ (N * 2 ^ w / D + 1) * 2 / 1 + 1 ≤ N * 2 ^ w / D * 2 / 1 + 41 ∧ (N * 2 ^ w / D + 1) * 2 / 1 + 1 ≤ 129 * 2 ^ w ∧ N * 2 ^ w / D ≤ 2 ^ w * 64 ∧
    ∀ x : Rat, x * (D : Rat) = (N : Rat) → Enc w (N * 2 ^ w / D * 2 / 1) ((N * 2 ^ w / D + 1) * 2 / 1 + 1) (x * 2) := by
  have P : 2 ^ 8 ≤ 2 ^ w := Nat.pow_le_pow_right (by omega) hw
  have Tle : N * 2 ^ w / D ≤ 2 ^ w * 64 := by
    refine (Nat.div_le_iff_le_mul hD).2 ?_
    have m := Nat.mul_le_mul_right (2 ^ w) hN
    have e : 64 * D * 2 ^ w = 2 ^ w * 64 * D := by rw [Nat.mul_comm, ← Nat.mul_assoc]
    omega
  refine ⟨by omega, by omega, by omega, Tle, fun x hx => ?_⟩
  have f := floor_le (a := N * 2 ^ w) (d := D)
  have g := le_floor (a := N * 2 ^ w) (d := D) hD
  have dR : (0 : Rat) < (D : Rat) := by exact_mod_cast hD
  have k : ((N * 2 ^ w : Nat) : Rat) = x * p2 w * (D : Rat) := by
    have : ((N * 2 ^ w : Nat) : Rat) = (N : Rat) * p2 w := by exact_mod_cast rfl
    rw [this, ← hx]; grind
  rw [k] at f g
  have e := enc_times (n := 2) (d := 1) (by omega) (show Enc w (N * 2 ^ w / D) (N * 2 ^ w / D + 1) x from ⟨le_by dR f, le_by dR g⟩)
  have e2 : x * ((2 : Nat) : Rat) / ((1 : Nat) : Rat) = x * 2 := by
    rw [show ((2 : Nat) : Rat) = 2 from rfl, show ((1 : Nat) : Rat) = 1 from rfl]
    generalize x * 2 = z
    have := Rat.div_mul_cancel (a := z) (b := 1) (by decide)
    rw [Rat.mul_one] at this; exact this
  rw [e2] at e; exact e
theorem nn_of {N D : Nat} {x : Rat} (hD : 0 < D) (h : x * (D : Rat) = (N : Rat)) : 0 ≤ x := by
  have dR : (0 : Rat) < (D : Rat) := by exact_mod_cast hD
  refine le_by dR ?_
  rw [Rat.zero_mul, h]; exact nat_nonneg N
theorem le_of64 {N D : Nat} {x : Rat} (hD : 0 < D) (h : x * (D : Rat) = (N : Rat)) (hN : N ≤ 64 * D) : x ≤ 64 := by
  have dR : (0 : Rat) < (D : Rat) := by exact_mod_cast hD
  refine le_by dR ?_
  rw [h]
  have := Ex.castle hN
  rw [Ex.castmul] at this; exact this
theorem one_encE (w : Nat) : Enc w (2 ^ w) (2 ^ w + 1) 1 := by
  refine ⟨by rw [Rat.one_mul]; exact Rat.le_refl, ?_⟩
  rw [Rat.one_mul]
  exact_mod_cast Nat.le_succ (2 ^ w)
section
variable {N D w n : Nat}
theorem incg_row (hn : 1 ≤ n) (hn2 : n ≤ 30) (hD : 0 < D) (hN : N ≤ 64 * D) (lN : (lim N).length ≤ 100) (lD : (lim D).length ≤ 100) (hw0 : 80 ≤ w) (hw : w ≤ 1000) :
    ∃ A B : Nat, (∀ s : Bool, Go.Ev.Fn CX 62 [.int .i64 (n : Int), ratV s (lim N) (lim D), .int .i64 (w : Int)] (spanV A B)) ∧ A ≤ B ∧ B < 2 ^ (w + 10014) ∧ B ≤ ((igR n).1 + 1) * 2 ^ w ∧ B ≤ A + ((igR n).2 + 8) ∧
      ∀ x : Rat, x * (D : Rat) = (N : Rat) → ∃ s0, ∀ L, s0 ≤ L → Enc w A B (1 * sk (x * 2) (n + 2) L) := by
  have fr := fun s => fix_RatS (s := s) (n := N) (d := D) (w := w) hD (by omega) (by omega) (by omega)
  have P : 2 ^ 8 ≤ 2 ^ w := Nat.pow_le_pow_right (by omega) (by omega)
  obtain ⟨b1, b2, b3, b4, b5⟩ := by_ok (w := w) hD hN (by omega)
  generalize N * 2 ^ w / D = T at *
  have e9 : 2 ^ (w + 9) = 2 ^ w * 512 := Nat.pow_add _ _ _
  have e8 : 2 ^ (w + 8) = 2 ^ w * 256 := Nat.pow_add _ _ _
  have e10 : 2 ^ (w + 10) = 2 ^ w * 1024 := Nat.pow_add _ _ _
  have lT := lim_len_pw (n := T) (w := w + 9) (by omega)
  have lT1 := lim_len_pw (n := T + 1) (w := w + 9) (by omega)
  have o2 := nat_Of 2 (by omega)
  have o1 := fix_One
  have l1 := lim_len1
  have l2 : (lim 2).length ≤ 1 := lim_len_one (by decide)
  have ti := fix_Times (a := T) (b := T + 1) (n := 2) (d := 1) (by omega) (by omega) (by omega) (by omega) (by omega)
  have un := fix_Unit (w := w) (by omega)
  generalize T * 2 / 1 = Q1 at *
  generalize (T + 1) * 2 / 1 + 1 = Q2 at *
  have lQ1 := lim_len_pw (n := Q1) (w := w + 9) (by omega)
  have lQ2 := lim_len_pw (n := Q2) (w := w + 9) (by omega)
  have i0 := tInv_0 (w := w) (k0 := n + 2) (t1 := 2 ^ w) (t2 := 2 ^ w + 1) (a1 := 2 ^ w) (a2 := 2 ^ w + 1) (by omega) (by omega) (by omega) (by omega)
  obtain ⟨F, hF⟩ : ∃ F : Nat, F = 5200 := ⟨_, rfl⟩
  obtain ⟨A, B, hr, hAB, hB⟩ := tRow_end (w := w) (Y1 := Q1) (Y2 := Q2) (M := 0) (k0 := n + 2) (by omega) b1 (by omega) (by omega) (by omega) 1023 F 0 (n + 2) _ _ _ _ i0 (by omega) (by omega) (by omega)
  obtain ⟨-, w1, w2⟩ := tRow_wide (W := 129) (D := 41) b3 b1 b2 F F (n + 2) _ _ _ _ 2 1 2 1 A B (Nat.le_refl _) (by omega) hr (by omega) (by omega) (by omega) (by omega) (by omega) (by omega)
  obtain ⟨-, w3, w4⟩ := ig_at hn hn2
  rw [hF] at w1 w2
  generalize wRow 129 41 5200 (n + 2) 2 1 2 1 = wr at *
  have w5 := Nat.mul_le_mul_right (2 ^ w) w3
  refine ⟨A, B, fun s => ?_, hAB, hB, ?_, by omega, fun x hx => ?_⟩
  rotate_left
  · rw [Nat.add_mul, Nat.one_mul]; omega
  · have en := b5 x hx
    have x0 := nn_of hD hx
    have x64 := le_of64 hD hx hN
    exact tRow_enc (c := 1) (k0 := n + 2) (by omega) en (by decide) (fun i _ g => tk_late (w := w) (by omega) (by omega) (enc_nonneg en) (le_128 x64) (by omega) (by rw [Rat.one_mul] at g; exact g)) F 0 _ _ _ _ A B hr (by
      show Enc w _ _ (1 * 1); rw [Rat.one_mul]; exact one_encE w) (by show Enc w _ _ (1 * (0 + 1)); rw [Rat.zero_add, Rat.one_mul]; exact one_encE w)
  have lens := fun (i k t1 t2 a1 a2 : Nat) (hi : i ≤ F) (h : tInv w (n + 2) i k t1 t2 a1 a2) => (show (lim t1).length ≤ 1000 ∧ (lim t2).length ≤ 1000 ∧ (lim a1).length ≤ 1000 ∧ (lim a2).length ≤ 1000 from by
    obtain ⟨h1, h2, h3, h4, h5⟩ := h
    have a := lim_len_pw h4
    have b := lim_len_mono h2
    have up : (i + 2) * 2 ^ (w + 10000) ≤ 2 ^ (w + 10014) := by
      have e : 2 ^ (w + 10014) = 16384 * 2 ^ (w + 10000) := by rw [show w + 10014 = 14 + (w + 10000) by omega, Nat.pow_add 2 14]
      rw [e]; exact Nat.mul_le_mul_right _ (by omega)
    have c := lim_len_pw (n := a2) (w := w + 10014) (by omega)
    have d := lim_len_mono h3
    exact ⟨by omega, by omega, by omega, by omega⟩)
  have step := fun (i k t1 t2 a1 a2 : Nat) (h : tInv w (n + 2) i k t1 t2 a1 a2) => tInv_step (Y1 := Q1) (Y2 := Q2) (by omega) b1 (by omega) h
  have frs := fr s
  obtain ⟨W1, hW1⟩ : ∃ W1 : Nat, W1 = 2 ^ w := ⟨_, rfl⟩
  rw [← hW1] at un i0 hr
  clear fr b2 b3 b4 b5 e8 e9 e10 hB hAB w1 w2 w3 w4 w5 P
  refine Go.Ev.Fn.intro (fn := Tryz.f62) (body := (Tryz.f62).body.get!) (by kernel_rfl) (by kernel_rfl) (by kernel_rfl) (fun _ => rfl) (Nat.le_of_ble_eq_true (by kernel_rfl)) ?_; unfold Tryz.f62; simp only [Option.get!_some]
  repeat (first | (simp only [go_sem, Nat.reduceEqDiff, Nat.reduceAdd, Nat.reduceSub, Nat.reduceMul, Nat.reduceLeDiff, Nat.reduceLT, reduceIte, reduceCtorEq, Nat.succ_ne_zero, elemsC, Int.reduceToNat, Nat.reducePow]) | (simp (disch := (first | omega | (simp only [AL, List.length_map]; omega))) only [AR, AL, ifT, ifF, take_all, List.length_cons, List.length_nil, Int.reduceToNat, Int.reducePow, Nat.reducePow]) | (refine wk_intro (by kernel_rfl) ?_) | (refine vf_of (by first | exact frs | exact o2 | exact o1 | exact ti | exact un) ?_))
  refine vp_loop_inv (fun s' => s'.tmp 2 = .sv (.int .i64 (w : Int)) ∧ s'.tmp 6 = .ptr 6 0 0 ∧ s'.obj 6 0 = some [.sl 0 [], .sl 0 []] ∧ s'.tmp 7 = .ptr 7 0 0 ∧ s'.obj 7 0 = some [natV (lim Q1), natV (lim Q2)] ∧ s'.tmp 8 = .ptr 8 0 0 ∧ s'.tmp 9 = .ptr 9 0 0 ∧
      ∃ f i k t1 t2 a1 a2 : Nat, s'.tmp 10 = .sv (.int .i64 (k : Int)) ∧ f + i = F ∧ tRow w Q1 Q2 0 f k t1 t2 a1 a2 = some (A, B) ∧ s'.obj 9 0 = some [natV (lim t1), natV (lim t2)] ∧ s'.obj 8 0 = some [natV (lim a1), natV (lim a2)] ∧ tInv w (n + 2) i k t1 t2 a1 a2)
    (fun s' => match s'.tmp 10 with | .sv (.int _ i) => 20000 - i.toNat | _ => 0) ⟨rfl, rfl, rfl, rfl, rfl, rfl, rfl, F, 0, n + 2, W1, W1 + 1, W1, W1 + 1, rfl, by omega, hr, rfl, rfl, i0⟩ ?_
  rintro s' ⟨i2, i6, o6, i7, o7, i8, i9, f, i, k, t1, t2, a1, a2, i10, hfi, hgo, o9, o8, hok⟩
  obtain ⟨lt1, lt2, la1, la2⟩ := lens i k t1 t2 a1 a2 (by omega) hok
  have hk := hok.1
  have st := step i k t1 t2 a1 a2 hok
  have sm := fix_Small (a := t1) (b := t2) (by omega) (k := 2) (by omega)
  cases f with
  | zero => simp only [tRow] at hgo; cases hgo
  | succ f =>
    rw [tRow] at hgo
    by_cases hs : t2 < 4
    · rw [if_pos ⟨Nat.zero_le _, hs⟩] at hgo
      simp only [Option.some.injEq, Prod.mk.injEq] at hgo
      obtain ⟨rfl, rfl⟩ := hgo
      rw [decide_eq_true (show t2 < 2 ^ 2 from hs)] at sm
      have wd := fix_Wider (a := a1) (b := a2) (n := 8) (by omega) (by omega) (by omega)
      clear step lens st hr
      repeat (first | (simp only [go_sem, Nat.reduceEqDiff, Nat.reduceAdd, Nat.reduceSub, Nat.reduceMul, Nat.reduceLeDiff, Nat.reduceLT, reduceIte, reduceCtorEq, Nat.succ_ne_zero, elemsC, Int.reduceToNat, Nat.reducePow, i2, i6, o6, i7, o7, i8, i9, i10, o8, o9, Bool.not_true]) | (simp (disch := (first | omega | (simp only [AL, List.length_map]; omega))) only [AR, AL, ifT, ifF, take_all, List.length_cons, List.length_nil, Int.reduceToNat, Int.reducePow, Nat.reducePow, i2, i6, o6, i7, o7, i8, i9, i10, o8, o9, Bool.not_true]) | (refine wk_intro (by kernel_rfl) ?_) | (refine vf_of (by first | exact sm | exact wd) ?_))
    · rw [if_neg (fun h => hs h.2)] at hgo
      rw [decide_eq_false (show ¬ t2 < 2 ^ 2 from hs)] at sm
      obtain ⟨lu1, lu2, lb1, lb2⟩ := lens (i + 1) (k + 2) _ _ _ _ (by omega) st
      have mu := fix_Mul (a := t1) (b := t2) (c := Q1) (d := Q2) (w := w) (by omega) (by omega) (by omega) (by omega) (by omega) (by omega)
      have qk := nat_Of k (by omega)
      have lq : (lim k).length ≤ 2 := lim_len_lt (by omega)
      have z1 := lim_len_mul (a := t1) (b := Q1)
      have z2 := lim_len_mul (a := t2) (b := Q2)
      have z3 := lim_len_mono (Nat.div_le_self (t1 * Q1) (2 ^ w))
      have z4 := lim_len_add (a := t2 * Q2 / 2 ^ w) (b := 1) (L := 5000) (Nat.le_trans (lim_len_mono (Nat.div_le_self (t2 * Q2) (2 ^ w))) (by omega)) (by omega)
      have tk := fix_Times (a := t1 * Q1 / 2 ^ w) (b := t2 * Q2 / 2 ^ w + 1) (n := 1) (d := k) (by omega) (by omega) (by omega) (by omega) (by omega)
      generalize t1 * Q1 / 2 ^ w * 1 / k = u1 at *
      generalize (t2 * Q2 / 2 ^ w + 1) * 1 / k + 1 = u2 at *
      generalize t1 * Q1 / 2 ^ w = v1 at *
      generalize t2 * Q2 / 2 ^ w + 1 = v2 at *
      have ad := fix_Add (a := a1) (b := a2) (c := u1) (d := u2) (by omega) (by omega) (by omega) (by omega)
      clear step lens hr
      repeat (first | (simp only [go_sem, Nat.reduceEqDiff, Nat.reduceAdd, Nat.reduceSub, Nat.reduceMul, Nat.reduceLeDiff, Nat.reduceLT, reduceIte, reduceCtorEq, Nat.succ_ne_zero, elemsC, Int.reduceToNat, Nat.reducePow, i2, i6, o6, i7, o7, i8, i9, i10, o8, o9, Bool.not_false]) | (simp (disch := (first | omega | (simp only [AL, List.length_map]; omega))) only [AR, AL, ifT, ifF, take_all, List.length_cons, List.length_nil, Int.reduceToNat, Int.reducePow, Nat.reducePow, i2, i6, o6, i7, o7, i8, i9, i10, o8, o9, Bool.not_false]) | (refine wk_intro (by kernel_rfl) ?_) | (refine vf_of (by first | exact sm | exact mu | exact o1 | exact qk | exact tk | exact ad) ?_))
      exact ⟨⟨f, i + 1, k + 2, u1, u2, a1 + u1, a2 + u2, rfl, by omega, hgo, rfl, rfl, st⟩, by omega⟩
end
end Go.Proofs.YtemnjalaincijaaGreat
namespace Go.Proofs.YtemnjalaincijaaGreat
open Go.Ev
theorem ervP {x : Rat} (h : 0 ≤ x) : rv x = ratV false (lim x.num.natAbs) (lim x.den) := by
  show ratV (decide (x.num < 0)) _ _ = _
  rw [neg_numX, decide_eq_false (Rat.not_lt.2 h)]
theorem times2 (x : Rat) : x * ((2 : Nat) : Rat) / ((1 : Nat) : Rat) = x * 2 := by
  rw [show ((2 : Nat) : Rat) = 2 from rfl, show ((1 : Nat) : Rat) = 1 from rfl]
  generalize x * 2 = z
  have := Rat.div_mul_cancel (a := z) (b := 1) (by decide)
  rw [Rat.mul_one] at this; exact this
theorem SQ_one : (1 : Rat) ≤ SQ ∧ SQ ≤ 2 := by decide +kernel
theorem inv_ball {lo hi : Rat} {w g : Nat} (h1 : 1 ≤ lo) (h2 : lo ≤ hi) (h3 : (hi - lo) * p2 w ≤ (g : Rat)) (hg : g + 2 ≤ 2 ^ w) (hw : 1 ≤ w) :
    2 ^ (2 * w) / (unN hi w + 1) ≤ 2 ^ (2 * w) / unN lo w + 1 ∧ 2 ^ (2 * w) / unN lo w + 1 ≤ 2 * 2 ^ w ∧ 2 ^ (2 * w) / unN lo w + 1 ≤ 2 ^ (2 * w) / (unN hi w + 1) + (g + 4) ∧ 2 ^ w ≤ unN lo w ∧ unN hi w + 1 ≤ unN lo w + (g + 2) := by
  have P : 0 < 2 ^ w := Nat.pow_pos (by omega)
  have pp : 2 ^ (2 * w) = 2 ^ w * 2 ^ w := by rw [← Nat.pow_add]; congr 1; omega
  have u1 := unN_le (show 0 ≤ lo by grind) w
  have u2 := unN_le (show 0 ≤ hi by grind) w
  have W := p2_pos w
  have lo1 : 2 ^ w ≤ unN lo w := by
    have a : p2 w < ((unN lo w + 1 : Nat) : Rat) := by
      have := unN_lt (show 0 ≤ lo by grind) w
      have m := Rat.mul_le_mul_of_nonneg_right h1 (Rat.le_of_lt W)
      grind
    have a2 : 2 ^ w < unN lo w + 1 := by exact_mod_cast a
    omega
  have d : unN hi w + 1 ≤ unN lo w + (g + 2) := by
    have a : ((unN hi w : Nat) : Rat) < ((unN lo w + 1 + g : Nat) : Rat) := by
      have := unN_lt (show 0 ≤ lo by grind) w
      rw [Ex.castadd (unN lo w + 1) g]
      grind
    have a2 : unN hi w < unN lo w + 1 + g := by exact_mod_cast a
    omega
  have m := unN_mono (show 0 ≤ lo by grind) h2 w
  obtain ⟨i1, i2, i3⟩ := inv_gapE (M := 2 ^ (2 * w)) (lo := unN lo w) (hi := unN hi w + 1) (W := 2 ^ w) P pp lo1 (by omega) (by omega)
  exact ⟨by omega, by omega, by omega, lo1, d⟩
section
variable {N D w n : Nat}
theorem incg_roots {v : SV} {x : Rat} (hv : RatA v x 7) (h0 : 0 ≤ x) (h64 : x ≤ 64) (hw0 : 8 ≤ w) (hw : w < 233) :
    ∃ R1 R2 : Nat, ∃ lo hi : Rat, Go.Ev.Fn CX 126 [v, .int .i64 (w : Int)] (spanV R1 R2) ∧ R1 ≤ R2 ∧ R2 ≤ 21 * 2 ^ w ∧ R2 ≤ R1 + 100 ∧ 0 ≤ lo ∧ lo ≤ hi ∧ lo * lo ≤ x ∧ x ≤ hi * hi ∧ ∀ s, lo ≤ s → s ≤ hi → Enc w R1 R2 (s * (1 / SQ)) := by
  obtain ⟨lo, hi, fs, l0, lh, l1, l2, l3, y1, y2⟩ := root_Sqrt (p := w) hv h0 (by omega) (by omega) (by omega)
  obtain ⟨m1, m2, fp, h1, h2, h3, h4, z1, z2⟩ := many_pi hw0 hw
  obtain ⟨lo', hi', fr, r1, r2, r3, x1, x2⟩ := many_root hw h1 h2 h3 h4 z1 z2
  have P : 2 ^ 8 ≤ 2 ^ w := Nat.pow_le_pow_right (by omega) hw0
  have W := p2_pos w
  have W8 : ((256 : Nat) : Rat) ≤ p2 w := Ex.castle P
  rw [show ((256 : Nat) : Rat) = 256 from rfl] at W8
  obtain ⟨q1, q2⟩ := SQ_one
  have sq2 : (3 / 2 : Rat) ≤ SQ := by decide +kernel
  have lo1 : 1 ≤ lo' := by
    refine Rat.not_lt.1 fun g => ?_
    have := Rat.mul_le_mul_of_nonneg_left W8 (show 0 ≤ hi' - lo' by grind)
    have h32 : (3 / 2 : Rat) * 2 = 3 := by decide +kernel
    grind
  have lh' : lo' ≤ hi' := by grind
  obtain ⟨i1, i2, i3, i4, i5⟩ := inv_ball (w := w) (g := 3) lo1 lh' r3 (by omega) (by omega)
  have hlo : lo ≤ 8 := by
    refine Rat.not_lt.1 fun g => ?_
    have a := Rat.mul_le_mul_of_nonneg_right (Rat.le_of_lt g) l0
    grind
  have hhi : hi ≤ 9 := by
    refine Rat.not_lt.1 fun g => ?_
    have := Rat.mul_le_mul_of_nonneg_left W8 (show 0 ≤ hi - lo by grind)
    grind
  have uh : unN hi w + 1 ≤ 9 * 2 ^ w + 1 := by
    have u := (unN_le (show 0 ≤ hi by grind) w).1
    have m := Rat.mul_le_mul_of_nonneg_right hhi (Rat.le_of_lt W)
    have t : ((unN hi w : Nat) : Rat) ≤ ((9 * 2 ^ w : Nat) : Rat) := by
      rw [Ex.castmul]; exact Rat.le_trans u m
    have : unN hi w ≤ 9 * 2 ^ w := by exact_mod_cast t
    omega
  have ul : unN hi w + 1 ≤ unN lo w + 3 := by
    have a : ((unN hi w : Nat) : Rat) < ((unN lo w + 1 + 1 : Nat) : Rat) := by
      have b := unN_lt (show 0 ≤ lo by grind) w
      have c := (unN_le (show 0 ≤ hi by grind) w).1
      rw [Ex.castadd (unN lo w + 1) 1, show ((1 : Nat) : Rat) = 1 from rfl]
      grind
    have a2 : unN hi w < unN lo w + 1 + 1 := by exact_mod_cast a
    omega
  have um : unN lo w ≤ unN hi w + 1 := Nat.le_succ_of_le (unN_mono l0 lh w)
  have b1 := fix_Ball (w := w) (szR_mono y1 (show _ ≤ 200 by omega)) (szR_mono y2 (show _ ≤ 200 by omega)) (by omega) (by omega)
  have b2 := fix_Ball (w := w) (szR_mono x1 (show _ ≤ 200 by omega)) (szR_mono x2 (show _ ≤ 200 by omega)) (by omega) (by omega)
  obtain ⟨j1, j2, j3⟩ := mulS (w := w) (α := 10) (β := 2) (γ := 3) (δ := 7) um i1 (show unN hi w + 1 ≤ 10 * 2 ^ w by omega) i2 ul i3
  have e9 : 2 ^ (w + 9) = 2 ^ w * 512 := Nat.pow_add _ _ _
  have lh2 : unN hi' w + 1 ≤ 9 * 2 ^ w := by
    have hi3 : hi' ≤ 3 := by
      refine Rat.not_lt.1 fun g => ?_
      have := Rat.mul_le_mul_of_nonneg_left W8 (show 0 ≤ hi' - lo' by grind)
      grind
    have u := (unN_le (show 0 ≤ hi' by grind) w).1
    have m := Rat.mul_le_mul_of_nonneg_right hi3 (Rat.le_of_lt W)
    have t : ((unN hi' w : Nat) : Rat) ≤ ((3 * 2 ^ w : Nat) : Rat) := by
      rw [Ex.castmul]; exact Rat.le_trans u m
    have : unN hi' w ≤ 3 * 2 ^ w := by exact_mod_cast t
    omega
  have um2 := unN_mono (show 0 ≤ lo' by grind) lh' w
  have k1 := lim_len_pw (n := unN lo w) (w := w + 9) (by omega)
  have k2 := lim_len_pw (n := unN hi w + 1) (w := w + 9) (by omega)
  have k3 := lim_len_pw (n := unN lo' w) (w := w + 9) (by omega)
  have k4 := lim_len_pw (n := unN hi' w + 1) (w := w + 9) (by omega)
  have k5 := lim_len_pw (n := 2 ^ (2 * w) / unN lo' w + 1) (w := w + 9) (by omega)
  have k6 := lim_len_pw (n := 2 ^ (2 * w) / (unN hi' w + 1)) (w := w + 9) (by omega)
  have iv := fix_Inverse (a := unN lo' w) (b := unN hi' w + 1) (w := w) (by omega) (by omega) (by omega) (by omega) (by omega)
  have mu := fix_Mul (a := unN lo w) (b := unN hi w + 1) (c := 2 ^ (2 * w) / (unN hi' w + 1)) (d := 2 ^ (2 * w) / unN lo' w + 1) (w := w) (by omega) (by omega) (by omega) (by omega) (by omega) (by omega)
  have en : ∀ s, lo ≤ s → s ≤ hi → Enc w (unN lo w * (2 ^ (2 * w) / (unN hi' w + 1)) / 2 ^ w) ((unN hi w + 1) * (2 ^ (2 * w) / unN lo' w + 1) / 2 ^ w + 1) (s * (1 / SQ)) := fun s g1 g2 => enc_mul (ball_enc l0 g1 g2 w) (enc_inv (show 0 < unN lo' w by omega) (ball_enc (show 0 ≤ lo' by grind) r1 r2 w)).1
  refine ⟨_, _, lo, hi, ?_, j1, by omega, by omega, l0, lh, l1, l2, en⟩
  clear en j1 j2 j3 i1 i2 i3 i4 i5 l0 lh l1 l2 l3 h1 h2 h3 h4 r1 r2 r3 k1 k2 k3 k4 k5 k6 lo1 lh' hlo hhi uh ul um lh2 q1 q2 sq2
  generalize 2 ^ (2 * w) / (unN hi' w + 1) = I1 at *
  generalize 2 ^ (2 * w) / unN lo' w + 1 = I2 at *
  generalize unN hi w + 1 = u2 at *
  generalize unN lo w = u1 at *
  generalize unN hi' w + 1 = u4 at *
  generalize unN lo' w = u3 at *
  generalize u1 * I1 / 2 ^ w = Z1 at *
  generalize u2 * I2 / 2 ^ w + 1 = Z2 at *
  obtain ⟨s0, n0, d0, rfl, -⟩ := hv
  refine Go.Ev.Fn.intro (fn := Tryz.f126) (body := (Tryz.f126).body.get!) (by kernel_rfl) (by kernel_rfl) (by kernel_rfl) (fun _ => rfl) (Nat.le_of_ble_eq_true (by kernel_rfl)) ?_; unfold Tryz.f126; simp only [Option.get!_some]
  repeat (first | (simp only [go_sem, Nat.reduceEqDiff, Nat.reduceAdd, Nat.reduceSub, Nat.reduceMul, Nat.reduceLeDiff, Nat.reduceLT, reduceIte, reduceCtorEq, Nat.succ_ne_zero, elemsC, Int.reduceToNat, Nat.reducePow]) | (simp (disch := (first | omega | (simp only [AL, List.length_map]; omega))) only [AR, AL, ifT, ifF, take_all, List.length_cons, List.length_nil, Int.reduceToNat, Int.reducePow, Nat.reducePow]) | (refine wk_intro (by kernel_rfl) ?_) | (refine vp_draw (id := 3) (l := []) (by kernel_rfl) ?_) | (refine vf_of (by first | exact fs | exact fp | exact fr | exact b1 | exact b2 | exact iv | exact mu) ?_))
def igC (n : Nat) (s : Rat) : Rat := if n % 2 = 1 then s * (1 / SQ) * 2 else 1
set_option maxHeartbeats 1000000 in
theorem incg_power {x : Rat} (hz : szR x 7) (h0 : 0 ≤ x) (h64 : x ≤ 64) (hn : 1 ≤ n) (hn2 : n ≤ 30) (hw0 : 8 ≤ w) (hw : w < 233) :
    ∃ A B : Nat, ∃ lo hi : Rat, Go.Ev.Fn CX 61 [.int .i64 (n : Int), rv x, .int .i64 (w : Int)] (spanV A B) ∧ A ≤ B ∧ B ≤ (igP n).1 * 2 ^ w ∧ B ≤ A + (igP n).2 ∧ 0 ≤ lo ∧ lo ≤ hi ∧ lo * lo ≤ x ∧ x ≤ hi * hi ∧ ∀ s, lo ≤ s → s ≤ hi → Enc w A B (igC n s * tk (x * 2) (2 + n % 2) (n / 2)) := by
  obtain ⟨R1, R2, lo, hi, fr, r1, r2, r3, l0, lh, l1, l2, en⟩ := incg_roots (w := w) (RatA_rv hz) h0 h64 hw0 hw
  have zp := Nat.le_trans hz.1 (show 7 ≤ 100 by omega)
  have zd := Nat.le_trans hz.2 (show 7 ≤ 100 by omega)
  have er : rv x = ratV false (lim x.num.natAbs) (lim x.den) := ervP h0
  have hN : x.num.natAbs ≤ 64 * x.den := by
    have d := Ex.denR x
    have e : ((x.num.natAbs : Nat) : Rat) = (x.num : Rat) := by rw [← castZn, num_abs h0]
    have dR : (0 : Rat) < (x.den : Rat) := by exact_mod_cast x.den_pos
    have m := Rat.mul_le_mul_of_nonneg_right h64 (Rat.le_of_lt dR)
    rw [d, ← e] at m
    have : ((x.num.natAbs : Nat) : Rat) ≤ ((64 * x.den : Nat) : Rat) := by rw [Ex.castmul]; exact m
    exact_mod_cast this
  have hx : x * (x.den : Rat) = ((x.num.natAbs : Nat) : Rat) := by rw [Ex.denR x, ← castZn, num_abs h0]
  have hD := x.den_pos
  rw [er] at fr ⊢
  generalize x.num.natAbs = N at *
  generalize x.den = D at *
  have fx := fix_RatS (s := false) (n := N) (d := D) (w := w) hD (by omega) (by omega) (by omega)
  have P : 2 ^ 8 ≤ 2 ^ w := Nat.pow_le_pow_right (by omega) (by omega)
  obtain ⟨b1, b2, b3, b4, b5⟩ := by_ok (w := w) hD hN (by omega)
  have by5 := b5 x hx
  clear b5
  generalize N * 2 ^ w / D = T at *
  have e9 : 2 ^ (w + 9) = 2 ^ w * 512 := Nat.pow_add _ _ _
  have lT := lim_len_pw (n := T) (w := w + 9) (by omega)
  have lT1 := lim_len_pw (n := T + 1) (w := w + 9) (by omega)
  have o2 := nat_Of 2 (by omega)
  have o1 := fix_One
  have l1' := lim_len1
  have l2' : (lim 2).length ≤ 1 := lim_len_one (by decide)
  have ti := fix_Times (a := T) (b := T + 1) (n := 2) (d := 1) (by omega) (by omega) (by omega) (by omega) (by omega)
  have un := fix_Unit (w := w) (by omega)
  have lR1 := lim_len_pw (n := R1) (w := w + 9) (by omega)
  have lR2 := lim_len_pw (n := R2) (w := w + 9) (by omega)
  have tr := fix_Times (a := R1) (b := R2) (n := 2) (d := 1) (by omega) (by omega) (by omega) (by omega) (by omega)
  generalize T * 2 / 1 = Q1 at *
  generalize (T + 1) * 2 / 1 + 1 = Q2 at *
  have lQ1 := lim_len_pw (n := Q1) (w := w + 9) (by omega)
  have lQ2 := lim_len_pw (n := Q2) (w := w + 9) (by omega)
  have step : ∀ (k a b : Nat), 1 ≤ k → k < 1000 → a ≤ b → (lim b).length ≤ 2000 → (Go.Ev.Fn CX 60 [spanV a b, spanV Q1 Q2, .int .i64 (w : Int)] (spanV (a * Q1 / 2 ^ w) (b * Q2 / 2 ^ w + 1))) ∧ Go.Ev.Fn CX 125 [spanV (a * Q1 / 2 ^ w) (b * Q2 / 2 ^ w + 1), natV (lim 1), natV (lim k)] (spanV (a * Q1 / 2 ^ w * 1 / k) ((b * Q2 / 2 ^ w + 1) * 1 / k + 1)) ∧ a * Q1 / 2 ^ w * 1 / k ≤ (b * Q2 / 2 ^ w + 1) * 1 / k + 1 ∧ (lim ((b * Q2 / 2 ^ w + 1) * 1 / k + 1)).length ≤ (lim b).length + 20 := by
    intro k a b hk hk2 hab hb
    have la := lim_len_mono hab
    have z1 := lim_len_mul (a := a) (b := Q1)
    have z2 := lim_len_mul (a := b) (b := Q2)
    have z3 := lim_len_mono (Nat.div_le_self (a * Q1) (2 ^ w))
    have z5 := lim_len_mono (Nat.div_le_self (b * Q2) (2 ^ w))
    have z4 := lim_len_add (a := b * Q2 / 2 ^ w) (b := 1) (L := (lim b).length + 9) (by omega) (by omega)
    have z6 := lim_len_mono (Nat.div_le_self ((b * Q2 / 2 ^ w + 1) * 1) k)
    rw [Nat.mul_one (b * Q2 / 2 ^ w + 1)] at z6
    have z7 := lim_len_add (a := (b * Q2 / 2 ^ w + 1) * 1 / k) (b := 1) (L := (lim b).length + 10) (by rw [Nat.mul_one]; omega) (by omega)
    have lk : (lim k).length ≤ 1 := lim_len_one (by omega)
    refine ⟨fix_Mul (by omega) (by omega) (by omega) (by omega) (by omega) (by omega), fix_Times (by omega) (by omega) (by omega) (by omega) (by omega), ?_, by omega⟩
    refine Nat.le_succ_of_le (Nat.div_le_div_right (Nat.mul_le_mul_right 1 ?_))
    exact Nat.le_succ_of_le (Nat.div_le_div_right (Nat.mul_le_mul hab b1))
  have an := and_one64 (a := n) (by omega)
  by_cases hod : n % 2 = 1
  · have gP : igP n = wPow 129 41 (n / 2) 3 50 400 := if_pos hod
    obtain ⟨c1, c2, c3⟩ := pRow_wide (W := 129) (D := 41) b3 b1 b2 (n / 2) 3 (R1 * 2 / 1) (R2 * 2 / 1 + 1) 50 400 (by omega) (by omega) (by omega) (by omega)
    rw [← gP] at c2 c3
    have hk0 : 2 + n % 2 = 3 := by omega
    have pe : ∀ s, lo ≤ s → s ≤ hi → Enc w (pRow w Q1 Q2 (n / 2) 3 (R1 * 2 / 1) (R2 * 2 / 1 + 1)).1 (pRow w Q1 Q2 (n / 2) 3 (R1 * 2 / 1) (R2 * 2 / 1 + 1)).2 (igC n s * tk (x * 2) (2 + n % 2) (n / 2)) := by
      intro s g1 g2
      rw [hk0]
      have h := pRow_enc (c := igC n s) (k0 := 3) (by omega) by5 (n / 2) 0 _ _ (by
      have e := enc_times (n := 2) (d := 1) (by omega) (en s g1 g2)
      rw [times2] at e
      rw [show igC n s = s * (1 / SQ) * 2 from if_pos hod]
      show Enc w _ _ (_ * 1)
      rw [Rat.mul_one]; exact e)
      rw [Nat.zero_add] at h
      exact h
    obtain ⟨A, B, hAB⟩ : ∃ A B : Nat, pRow w Q1 Q2 (n / 2) 3 (R1 * 2 / 1) (R2 * 2 / 1 + 1) = (A, B) := ⟨_, _, rfl⟩
    rw [hAB] at c1 c2 c3 pe
    refine ⟨A, B, lo, hi, ?_, c1, c2, c3, l0, lh, l1, l2, pe⟩
    have lS : (lim (R2 * 2 / 1 + 1)).length ≤ 100 := Nat.le_trans (lim_len_pw (w := w + 9) (by omega)) (by omega)
    have hS : R1 * 2 / 1 ≤ (R2 * 2 / 1 + 1) := by omega
    rw [hod] at an
    clear pe c1 c2 c3 gP hk0 en by5 b2 b3 b4 e9 P l0 lh l1 l2 r1 r2 r3
    generalize R1 * 2 / 1 = S1 at *
    generalize R2 * 2 / 1 + 1 = S2 at *
    refine Go.Ev.Fn.intro (fn := Tryz.f61) (body := (Tryz.f61).body.get!) (by kernel_rfl) (by kernel_rfl) (by kernel_rfl) (fun _ => rfl) (Nat.le_of_ble_eq_true (by kernel_rfl)) ?_; unfold Tryz.f61; simp only [Option.get!_some]
    repeat (first | (simp only [go_sem, Nat.reduceEqDiff, Nat.reduceAdd, Nat.reduceSub, Nat.reduceMul, Nat.reduceLeDiff, Nat.reduceLT, reduceIte, reduceCtorEq, Nat.succ_ne_zero, elemsC, Int.reduceToNat, Nat.reducePow, an]) | (simp (disch := (first | omega | (simp only [AL, List.length_map]; omega))) only [AR, AL, ifT, ifF, take_all, List.length_cons, List.length_nil, Int.reduceToNat, Int.reducePow, Nat.reducePow, an]) | (refine wk_intro (by kernel_rfl) ?_) | (refine vf_of (by first | exact un | exact fr | exact o2 | exact o1 | exact tr | exact fx | exact ti) ?_))
    refine vp_loop_inv (fun s' => s'.tmp 0 = .sv (.int .i64 (n : Int)) ∧ s'.tmp 2 = .sv (.int .i64 (w : Int)) ∧ s'.tmp 6 = .ptr 6 0 0 ∧ s'.obj 6 0 = some [.sl 0 [], .sl 0 []] ∧ s'.tmp 7 = .ptr 7 0 0 ∧ s'.tmp 9 = .ptr 9 0 0 ∧ s'.obj 9 0 = some [natV (lim Q1), natV (lim Q2)] ∧
        ∃ f i a b : Nat, s'.tmp 10 = .sv (.int .i64 ((3 + 2 * i : Nat) : Int)) ∧ f + i = n / 2 ∧ pRow w Q1 Q2 f (3 + 2 * i) a b = (A, B) ∧ s'.obj 7 0 = some [natV (lim a), natV (lim b)] ∧ a ≤ b ∧ (lim b).length ≤ 100 + 20 * i)
      (fun s' => match s'.tmp 10 with | .sv (.int _ i) => 1000 - i.toNat | _ => 0) ⟨rfl, rfl, rfl, rfl, rfl, rfl, rfl, n / 2, 0, S1, S2, rfl, by omega, hAB, rfl, hS, by omega⟩ ?_
    rintro s' ⟨i0, i2, i6, o6, i7, i9, o9, f, i, a, b, i10, hfi, hgo, o7, hab, hlb⟩
    have la := lim_len_mono hab
    cases f with
    | zero =>
        have hgo' : (a, b) = (A, B) := hgo
        simp only [Prod.mk.injEq] at hgo'
        obtain ⟨rfl, rfl⟩ := hgo'
        clear step hAB
        repeat (first | (simp only [go_sem, Nat.reduceEqDiff, Nat.reduceAdd, Nat.reduceSub, Nat.reduceMul, Nat.reduceLeDiff, Nat.reduceLT, reduceIte, reduceCtorEq, Nat.succ_ne_zero, elemsC, Int.reduceToNat, Nat.reducePow, i0, i2, i6, o6, i7, i9, o9, i10, o7]) | (simp (disch := (first | omega | (simp only [AL, List.length_map]; omega))) only [AR, AL, ifT, ifF, take_all, List.length_cons, List.length_nil, Int.reduceToNat, Int.reducePow, Nat.reducePow, i0, i2, i6, o6, i7, i9, o9, i10, o7]) | (refine wk_intro (by kernel_rfl) ?_))
    | succ f =>
        obtain ⟨mu, tk, s1, s2⟩ := step (3 + 2 * i) a b (by omega) (by omega) hab (by omega)
        have qk := nat_Of (3 + 2 * i) (by omega)
        have hgo' : pRow w Q1 Q2 f (3 + 2 * i + 2) (a * Q1 / 2 ^ w * 1 / (3 + 2 * i)) ((b * Q2 / 2 ^ w + 1) * 1 / (3 + 2 * i) + 1) = (A, B) := hgo
        clear step hAB hgo
        generalize a * Q1 / 2 ^ w * 1 / (3 + 2 * i) = u1 at *
        generalize (b * Q2 / 2 ^ w + 1) * 1 / (3 + 2 * i) + 1 = u2 at *
        generalize a * Q1 / 2 ^ w = v1 at *
        generalize b * Q2 / 2 ^ w + 1 = v2 at *
        repeat (first | (simp only [go_sem, Nat.reduceEqDiff, Nat.reduceAdd, Nat.reduceSub, Nat.reduceMul, Nat.reduceLeDiff, Nat.reduceLT, reduceIte, reduceCtorEq, Nat.succ_ne_zero, elemsC, Int.reduceToNat, Nat.reducePow, i0, i2, i6, o6, i7, i9, o9, i10, o7]) | (simp (disch := (first | omega | (simp only [AL, List.length_map]; omega))) only [AR, AL, ifT, ifF, take_all, List.length_cons, List.length_nil, Int.reduceToNat, Int.reducePow, Nat.reducePow, i0, i2, i6, o6, i7, i9, o9, i10, o7]) | (refine wk_intro (by kernel_rfl) ?_) | (refine vf_of (by first | exact mu | exact o1 | exact qk | exact tk) ?_))
        exact ⟨⟨f, i + 1, u1, u2, by first | rfl | (congr 2; omega), by omega, hgo', rfl, s1, by omega⟩, by omega⟩
  · have gP : igP n = wPow 129 41 (n / 2) 2 2 1 := if_neg hod
    obtain ⟨c1, c2, c3⟩ := pRow_wide (W := 129) (D := 41) b3 b1 b2 (n / 2) 2 (2 ^ w) (2 ^ w + 1) 2 1 (by omega) (by omega) (by omega) (by omega)
    rw [← gP] at c2 c3
    have hk0 : 2 + n % 2 = 2 := by omega
    have pe : ∀ s, lo ≤ s → s ≤ hi → Enc w (pRow w Q1 Q2 (n / 2) 2 (2 ^ w) (2 ^ w + 1)).1 (pRow w Q1 Q2 (n / 2) 2 (2 ^ w) (2 ^ w + 1)).2 (igC n s * tk (x * 2) (2 + n % 2) (n / 2)) := by
      intro s g1 g2
      rw [hk0]
      have h := pRow_enc (c := igC n s) (k0 := 2) (by omega) by5 (n / 2) 0 _ _ (by
      rw [show igC n s = 1 from if_neg hod]
      show Enc w _ _ (1 * 1)
      rw [Rat.mul_one]; exact one_encE w)
      rw [Nat.zero_add] at h
      exact h
    obtain ⟨A, B, hAB⟩ : ∃ A B : Nat, pRow w Q1 Q2 (n / 2) 2 (2 ^ w) (2 ^ w + 1) = (A, B) := ⟨_, _, rfl⟩
    rw [hAB] at c1 c2 c3 pe
    refine ⟨A, B, lo, hi, ?_, c1, c2, c3, l0, lh, l1, l2, pe⟩
    have lS : (lim (2 ^ w + 1)).length ≤ 100 := Nat.le_trans (lim_len_pw (w := w + 9) (by omega)) (by omega)
    have hS : 2 ^ w ≤ (2 ^ w + 1) := by omega
    rw [show n % 2 = 0 by omega] at an
    clear pe c1 c2 c3 gP hk0 en by5 b2 b3 b4 e9 P l0 lh l1 l2 r1 r2 r3
    obtain ⟨S1, hS1⟩ : ∃ z : Nat, z = 2 ^ w := ⟨_, rfl⟩
    rw [← hS1] at un hAB hS lS
    refine Go.Ev.Fn.intro (fn := Tryz.f61) (body := (Tryz.f61).body.get!) (by kernel_rfl) (by kernel_rfl) (by kernel_rfl) (fun _ => rfl) (Nat.le_of_ble_eq_true (by kernel_rfl)) ?_; unfold Tryz.f61; simp only [Option.get!_some]
    repeat (first | (simp only [go_sem, Nat.reduceEqDiff, Nat.reduceAdd, Nat.reduceSub, Nat.reduceMul, Nat.reduceLeDiff, Nat.reduceLT, reduceIte, reduceCtorEq, Nat.succ_ne_zero, elemsC, Int.reduceToNat, Nat.reducePow, an]) | (simp (disch := (first | omega | (simp only [AL, List.length_map]; omega))) only [AR, AL, ifT, ifF, take_all, List.length_cons, List.length_nil, Int.reduceToNat, Int.reducePow, Nat.reducePow, an]) | (refine wk_intro (by kernel_rfl) ?_) | (refine vf_of (by first | exact un | exact fx | exact o2 | exact o1 | exact ti) ?_))
    refine vp_loop_inv (fun s' => s'.tmp 0 = .sv (.int .i64 (n : Int)) ∧ s'.tmp 2 = .sv (.int .i64 (w : Int)) ∧ s'.tmp 6 = .ptr 6 0 0 ∧ s'.obj 6 0 = some [.sl 0 [], .sl 0 []] ∧ s'.tmp 7 = .ptr 7 0 0 ∧ s'.tmp 9 = .ptr 9 0 0 ∧ s'.obj 9 0 = some [natV (lim Q1), natV (lim Q2)] ∧
        ∃ f i a b : Nat, s'.tmp 10 = .sv (.int .i64 ((2 + 2 * i : Nat) : Int)) ∧ f + i = n / 2 ∧ pRow w Q1 Q2 f (2 + 2 * i) a b = (A, B) ∧ s'.obj 7 0 = some [natV (lim a), natV (lim b)] ∧ a ≤ b ∧ (lim b).length ≤ 100 + 20 * i)
      (fun s' => match s'.tmp 10 with | .sv (.int _ i) => 1000 - i.toNat | _ => 0) ⟨rfl, rfl, rfl, rfl, rfl, rfl, rfl, n / 2, 0, S1, (S1 + 1), rfl, by omega, hAB, rfl, hS, by omega⟩ ?_
    rintro s' ⟨i0, i2, i6, o6, i7, i9, o9, f, i, a, b, i10, hfi, hgo, o7, hab, hlb⟩
    have la := lim_len_mono hab
    cases f with
    | zero =>
        have hgo' : (a, b) = (A, B) := hgo
        simp only [Prod.mk.injEq] at hgo'
        obtain ⟨rfl, rfl⟩ := hgo'
        clear step hAB
        repeat (first | (simp only [go_sem, Nat.reduceEqDiff, Nat.reduceAdd, Nat.reduceSub, Nat.reduceMul, Nat.reduceLeDiff, Nat.reduceLT, reduceIte, reduceCtorEq, Nat.succ_ne_zero, elemsC, Int.reduceToNat, Nat.reducePow, i0, i2, i6, o6, i7, i9, o9, i10, o7]) | (simp (disch := (first | omega | (simp only [AL, List.length_map]; omega))) only [AR, AL, ifT, ifF, take_all, List.length_cons, List.length_nil, Int.reduceToNat, Int.reducePow, Nat.reducePow, i0, i2, i6, o6, i7, i9, o9, i10, o7]) | (refine wk_intro (by kernel_rfl) ?_))
    | succ f =>
        obtain ⟨mu, tk, s1, s2⟩ := step (2 + 2 * i) a b (by omega) (by omega) hab (by omega)
        have qk := nat_Of (2 + 2 * i) (by omega)
        have hgo' : pRow w Q1 Q2 f (2 + 2 * i + 2) (a * Q1 / 2 ^ w * 1 / (2 + 2 * i)) ((b * Q2 / 2 ^ w + 1) * 1 / (2 + 2 * i) + 1) = (A, B) := hgo
        clear step hAB hgo
        generalize a * Q1 / 2 ^ w * 1 / (2 + 2 * i) = u1 at *
        generalize (b * Q2 / 2 ^ w + 1) * 1 / (2 + 2 * i) + 1 = u2 at *
        generalize a * Q1 / 2 ^ w = v1 at *
        generalize b * Q2 / 2 ^ w + 1 = v2 at *
        repeat (first | (simp only [go_sem, Nat.reduceEqDiff, Nat.reduceAdd, Nat.reduceSub, Nat.reduceMul, Nat.reduceLeDiff, Nat.reduceLT, reduceIte, reduceCtorEq, Nat.succ_ne_zero, elemsC, Int.reduceToNat, Nat.reducePow, i0, i2, i6, o6, i7, i9, o9, i10, o7]) | (simp (disch := (first | omega | (simp only [AL, List.length_map]; omega))) only [AR, AL, ifT, ifF, take_all, List.length_cons, List.length_nil, Int.reduceToNat, Int.reducePow, Nat.reducePow, i0, i2, i6, o6, i7, i9, o9, i10, o7]) | (refine wk_intro (by kernel_rfl) ?_) | (refine vf_of (by first | exact mu | exact o1 | exact qk | exact tk) ?_))
        exact ⟨⟨f, i + 1, u1, u2, by first | rfl | (congr 2; omega), by omega, hgo', rfl, s1, by omega⟩, by omega⟩
end
end Go.Proofs.YtemnjalaincijaaGreat
namespace Go.Proofs.YtemnjalaincijaaGreat
open Go.Ev
theorem ev_le1 {z : Rat} (h : z < 0) {L : Nat} (hL : 1 ≤ L) : evX z L ≤ 1 ∧ 0 ≤ evX z L := by
  unfold evX
  rw [if_pos h]
  have one := E_one (x := -z) (by grind) hL
  have i : Ex.E (-z) L * (1 / Ex.E (-z) L) = 1 := Ex.mul_div _ 1 (by grind)
  have i0 : 0 ≤ 1 / Ex.E (-z) L := Ex.div_nn (by decide) (by grind)
  have := Rat.mul_le_mul_of_nonneg_right one i0
  rw [i, Rat.one_mul] at this
  exact ⟨this, i0⟩
def igV (n : Nat) (s x : Rat) (L : Nat) : Rat := igC n s * tk (x * 2) (2 + n % 2) (n / 2) * (1 * sk (x * 2) (n + 2) L) * evX (-x) L
section
variable {v : SV} {x : Rat} {n P : Nat} {pI : Int}
theorem incg_in {nI : Int} (hz : szR x 7) (h0 : 0 ≤ x) (h64 : x ≤ 64) (hn : 1 ≤ nI) (hn2 : nI ≤ 256) : Go.Ev.Fn CX 54 [.int .i64 nI, rv x] (.bool false) := by
  have i0 := rat_Int 0 (by omega)
  have i6 := rat_Int 64 (by omega)
  have c1 := rat_Cmp (RatA_rv hz) (RatA_rv (int_szR (n := 0) (by omega))) (by omega) (by omega) (by omega)
  have c2 := rat_Cmp (RatA_rv hz) (RatA_rv (int_szR (n := 64) (by omega))) (by omega) (by omega) (by omega)
  have e1 : decide (cmpR x ((0 : Int) : Rat) < 0) = false := by rw [cmpR_lt]; exact decide_eq_false (Rat.not_lt.2 h0)
  have e2 : decide (cmpR x ((64 : Int) : Rat) > 0) = false := by rw [cmpR_gt]; exact decide_eq_false (Rat.not_lt.2 h64)
  generalize cmpR x ((0 : Int) : Rat) = y1 at *
  generalize cmpR x ((64 : Int) : Rat) = y2 at *
  clear h0 h64
  refine Go.Ev.Fn.intro (fn := Tryz.f54) (body := (Tryz.f54).body.get!) (by kernel_rfl) (by kernel_rfl) (by kernel_rfl) (fun _ => rfl) (Nat.le_of_ble_eq_true (by kernel_rfl)) ?_; unfold Tryz.f54; simp only [Option.get!_some]
  repeat (first | (simp only [go_sem, Nat.reduceEqDiff, Nat.reduceAdd, Nat.reduceSub, Nat.reduceMul, Nat.reduceLeDiff, Nat.reduceLT, reduceIte, reduceCtorEq, Nat.succ_ne_zero, elemsC, Int.reduceToNat, Nat.reducePow, e1, e2]) | (simp (disch := (first | omega | (simp only [AL, List.length_map]; omega))) only [AR, AL, ifT, ifF, take_all, List.length_cons, List.length_nil, Int.reduceToNat, Int.reducePow, Nat.reducePow, e1, e2]) | (refine wk_intro (by kernel_rfl) ?_) | (refine vp_draw (id := 1) (l := []) (by kernel_rfl) ?_) | (refine vf_of (by first | exact i0 | exact c1 | exact i6 | exact c2) ?_))
theorem incg_out {nI : Int} (hz : szR x 7) (hn1 : -9223372036854775808 ≤ nI ∧ nI < 9223372036854775808) (h : nI < 1 ∨ 256 < nI ∨ x < 0 ∨ 64 < x) : Go.Ev.Fn CX 54 [.int .i64 nI, rv x] (.bool true) := by
  have i0 := rat_Int 0 (by omega)
  have i6 := rat_Int 64 (by omega)
  have c1 := rat_Cmp (RatA_rv hz) (RatA_rv (int_szR (n := 0) (by omega))) (by omega) (by omega) (by omega)
  have c2 := rat_Cmp (RatA_rv hz) (RatA_rv (int_szR (n := 64) (by omega))) (by omega) (by omega) (by omega)
  have e1 : decide (cmpR x ((0 : Int) : Rat) < 0) = decide (x < 0) := by rw [cmpR_lt]; rfl
  have e2 : decide (cmpR x ((64 : Int) : Rat) > 0) = decide (64 < x) := by rw [cmpR_gt]; rfl
  generalize cmpR x ((0 : Int) : Rat) = y1 at *
  generalize cmpR x ((64 : Int) : Rat) = y2 at *
  by_cases g1 : nI < 1
  · clear h
    refine Go.Ev.Fn.intro (fn := Tryz.f54) (body := (Tryz.f54).body.get!) (by kernel_rfl) (by kernel_rfl) (by kernel_rfl) (fun _ => rfl) (Nat.le_of_ble_eq_true (by kernel_rfl)) ?_; unfold Tryz.f54; simp only [Option.get!_some]
    repeat (first | (simp only [go_sem, Nat.reduceEqDiff, Nat.reduceAdd, Nat.reduceSub, Nat.reduceMul, Nat.reduceLeDiff, Nat.reduceLT, reduceIte, reduceCtorEq, Nat.succ_ne_zero, elemsC, Int.reduceToNat, Nat.reducePow]) | (simp (disch := (first | omega | (simp only [AL, List.length_map]; omega))) only [AR, AL, ifT, ifF, take_all, List.length_cons, List.length_nil, Int.reduceToNat, Int.reducePow, Nat.reducePow]) | (refine wk_intro (by kernel_rfl) ?_) | (refine vp_draw (id := 1) (l := []) (by kernel_rfl) ?_))
  by_cases g2 : 256 < nI
  · clear h
    refine Go.Ev.Fn.intro (fn := Tryz.f54) (body := (Tryz.f54).body.get!) (by kernel_rfl) (by kernel_rfl) (by kernel_rfl) (fun _ => rfl) (Nat.le_of_ble_eq_true (by kernel_rfl)) ?_; unfold Tryz.f54; simp only [Option.get!_some]
    repeat (first | (simp only [go_sem, Nat.reduceEqDiff, Nat.reduceAdd, Nat.reduceSub, Nat.reduceMul, Nat.reduceLeDiff, Nat.reduceLT, reduceIte, reduceCtorEq, Nat.succ_ne_zero, elemsC, Int.reduceToNat, Nat.reducePow]) | (simp (disch := (first | omega | (simp only [AL, List.length_map]; omega))) only [AR, AL, ifT, ifF, take_all, List.length_cons, List.length_nil, Int.reduceToNat, Int.reducePow, Nat.reducePow]) | (refine wk_intro (by kernel_rfl) ?_) | (refine vp_draw (id := 1) (l := []) (by kernel_rfl) ?_))
  by_cases g3 : x < 0
  · rw [decide_eq_true g3] at e1
    clear h g3 hz
    refine Go.Ev.Fn.intro (fn := Tryz.f54) (body := (Tryz.f54).body.get!) (by kernel_rfl) (by kernel_rfl) (by kernel_rfl) (fun _ => rfl) (Nat.le_of_ble_eq_true (by kernel_rfl)) ?_; unfold Tryz.f54; simp only [Option.get!_some]
    repeat (first | (simp only [go_sem, Nat.reduceEqDiff, Nat.reduceAdd, Nat.reduceSub, Nat.reduceMul, Nat.reduceLeDiff, Nat.reduceLT, reduceIte, reduceCtorEq, Nat.succ_ne_zero, elemsC, Int.reduceToNat, Nat.reducePow, e1]) | (simp (disch := (first | omega | (simp only [AL, List.length_map]; omega))) only [AR, AL, ifT, ifF, take_all, List.length_cons, List.length_nil, Int.reduceToNat, Int.reducePow, Nat.reducePow, e1]) | (refine wk_intro (by kernel_rfl) ?_) | (refine vp_draw (id := 1) (l := []) (by kernel_rfl) ?_) | (refine vf_of (by first | exact i0 | exact c1) ?_))
  · rw [decide_eq_false g3] at e1
    rw [decide_eq_true ((h.resolve_left g1).resolve_left g2 |>.resolve_left g3)] at e2
    clear h g3 hz
    refine Go.Ev.Fn.intro (fn := Tryz.f54) (body := (Tryz.f54).body.get!) (by kernel_rfl) (by kernel_rfl) (by kernel_rfl) (fun _ => rfl) (Nat.le_of_ble_eq_true (by kernel_rfl)) ?_; unfold Tryz.f54; simp only [Option.get!_some]
    repeat (first | (simp only [go_sem, Nat.reduceEqDiff, Nat.reduceAdd, Nat.reduceSub, Nat.reduceMul, Nat.reduceLeDiff, Nat.reduceLT, reduceIte, reduceCtorEq, Nat.succ_ne_zero, elemsC, Int.reduceToNat, Nat.reducePow, e1, e2]) | (simp (disch := (first | omega | (simp only [AL, List.length_map]; omega))) only [AR, AL, ifT, ifF, take_all, List.length_cons, List.length_nil, Int.reduceToNat, Int.reducePow, Nat.reducePow, e1, e2]) | (refine wk_intro (by kernel_rfl) ?_) | (refine vp_draw (id := 1) (l := []) (by kernel_rfl) ?_) | (refine vf_of (by first | exact i0 | exact c1 | exact i6 | exact c2) ?_))
theorem incg_Pout {nI : Int} (hv : RatA v x 7) (hn1 : -9223372036854775808 ≤ nI ∧ nI < 9223372036854775808) (h : nI < 1 ∨ 256 < nI ∨ x < 0 ∨ 64 < x) : Go.Ev.Fn CX 16 [.int .i64 nI, v, .int .i64 pI] (.tup [ballR 0 0, .bool false]) := by
  have nm := rat_Norm hv (by omega)
  have io := incg_out (szR_of hv (by omega)) hn1 h
  have i0 := rat_Int 0 (by omega)
  have o := ball_Of (RatA_rv (int_szR (n := 0) (by omega))) (by omega)
  rw [show ((0 : Int) : Rat) = 0 from rfl] at i0 o
  clear h
  obtain ⟨s, N, D, rfl, -⟩ := hv
  refine Go.Ev.Fn.intro (fn := Tryz.f16) (body := (Tryz.f16).body.get!) (by kernel_rfl) (by kernel_rfl) (by kernel_rfl) (fun _ => rfl) (Nat.le_of_ble_eq_true (by kernel_rfl)) ?_; unfold Tryz.f16; simp only [Option.get!_some]
  repeat (first | (simp only [go_sem, Nat.reduceEqDiff, Nat.reduceAdd, Nat.reduceSub, Nat.reduceMul, Nat.reduceLeDiff, Nat.reduceLT, reduceIte, reduceCtorEq, Nat.succ_ne_zero, elemsC, Int.reduceToNat, Nat.reducePow, Bool.not_true]) | (simp (disch := (first | omega | (simp only [AL, List.length_map]; omega))) only [AR, AL, ifT, ifF, take_all, List.length_cons, List.length_nil, Int.reduceToNat, Int.reducePow, Nat.reducePow, Bool.not_true]) | (refine wk_intro (by kernel_rfl) ?_) | (refine vp_draw (id := 3) (l := []) (by kernel_rfl) ?_) | (refine vp_draw (id := 7) (l := []) (by kernel_rfl) ?_) | (refine vp_draw (id := 8) (l := []) (by kernel_rfl) ?_) | (refine vf_of (by first | exact nm | exact io | exact i0 | exact o) ?_))
theorem incg_Pzero {nI : Int} (hv : RatA v 0 7) (hn : 1 ≤ nI) (hn2 : nI ≤ 256) : Go.Ev.Fn CX 16 [.int .i64 nI, v, .int .i64 pI] (.tup [ballR 0 0, .bool true]) := by
  have nm := rat_Norm hv (by omega)
  have zz := szR_of hv (by omega)
  have io := incg_in (nI := nI) zz (by decide) (by decide) hn hn2
  have zr := rat_Zero (RatA_rv zz) (by omega) (by omega)
  rw [decide_eq_true rfl] at zr
  have i0 := rat_Int 0 (by omega)
  have o := ball_Of (RatA_rv (int_szR (n := 0) (by omega))) (by omega)
  rw [show ((0 : Int) : Rat) = 0 from rfl] at i0 o
  clear hn hn2 zz
  obtain ⟨s, N, D, rfl, -⟩ := hv
  refine Go.Ev.Fn.intro (fn := Tryz.f16) (body := (Tryz.f16).body.get!) (by kernel_rfl) (by kernel_rfl) (by kernel_rfl) (fun _ => rfl) (Nat.le_of_ble_eq_true (by kernel_rfl)) ?_; unfold Tryz.f16; simp only [Option.get!_some]
  repeat (first | (simp only [go_sem, Nat.reduceEqDiff, Nat.reduceAdd, Nat.reduceSub, Nat.reduceMul, Nat.reduceLeDiff, Nat.reduceLT, reduceIte, reduceCtorEq, Nat.succ_ne_zero, elemsC, Int.reduceToNat, Nat.reducePow, Bool.not_false]) | (simp (disch := (first | omega | (simp only [AL, List.length_map]; omega))) only [AR, AL, ifT, ifF, take_all, List.length_cons, List.length_nil, Int.reduceToNat, Int.reducePow, Nat.reducePow, Bool.not_false]) | (refine wk_intro (by kernel_rfl) ?_) | (refine vp_draw (id := 3) (l := []) (by kernel_rfl) ?_) | (refine vp_draw (id := 7) (l := []) (by kernel_rfl) ?_) | (refine vp_draw (id := 8) (l := []) (by kernel_rfl) ?_) | (refine vf_of (by first | exact nm | exact io | exact zr | exact i0 | exact o) ?_))
set_option maxHeartbeats 1000000 in
theorem incg_P (hv : RatA v x 7) (h0 : 0 < x) (h64 : x ≤ 64) (hn : 1 ≤ n) (hn2 : n ≤ 30) (hpI : (pI ≤ 0 ∧ P = 0) ∨ pI = (P : Int)) (hP : P ≤ 96) :
    ∃ l h lo hi : Rat, Go.Ev.Fn CX 16 [.int .i64 (n : Int), v, .int .i64 pI] (.tup [ballR l h, .bool true]) ∧ l ≤ h ∧ szR l 400 ∧ szR h 400 ∧ (h - l) * p2 P ≤ 1 ∧ 0 ≤ lo ∧ lo ≤ hi ∧ lo * lo ≤ x ∧ x ≤ hi * hi ∧
      ∀ s, lo ≤ s → s ≤ hi → ∃ L0, ∀ L, L0 ≤ L → l ≤ igV n s x L ∧ igV n s x L ≤ h := by
  obtain ⟨w, hwP, hw1, hw2⟩ : ∃ w : Nat, w = P + 128 ∧ 128 ≤ w ∧ w < 225 := ⟨_, rfl, by omega, by omega⟩
  have zx := szR_of hv (by omega)
  have zn := szR_neg zx
  have nm := rat_Norm hv (by omega)
  have io := incg_in (nI := (n : Int)) zx (Rat.le_of_lt h0) h64 (by omega) (by omega)
  have zr := rat_Zero (RatA_rv zx) (by omega) (by omega)
  rw [decide_eq_false (show ¬ x = 0 by grind)] at zr
  have ng := rat_Neg (RatA_rv zx) (by omega) (by omega)
  have nx : -x < 0 := by grind
  obtain ⟨m, lm, fe, s2, hs2⟩ := exps_Exp (P := w) (pI := (w : Int)) (RatA_rv zn) (by omega) (by omega) (show -x ≠ 0 by grind) (by grind) (by grind) (den_le zn (by omega)) (by omega) (.inr rfl)
  obtain ⟨A, B, lo, hi, fp, p1, p2', p3, l0, lh, l1, l2, pe⟩ := incg_power (w := w) zx (Rat.le_of_lt h0) h64 hn hn2 (by omega) (by omega)
  have er : rv x = ratV false (lim x.num.natAbs) (lim x.den) := ervP (Rat.le_of_lt h0)
  have hN : x.num.natAbs ≤ 64 * x.den := by
    have d := Ex.denR x
    have e : ((x.num.natAbs : Nat) : Rat) = (x.num : Rat) := by rw [← castZn, num_abs (Rat.le_of_lt h0)]
    have dR : (0 : Rat) < (x.den : Rat) := by exact_mod_cast x.den_pos
    have m := Rat.mul_le_mul_of_nonneg_right h64 (Rat.le_of_lt dR)
    rw [d, ← e] at m
    have : ((x.num.natAbs : Nat) : Rat) ≤ ((64 * x.den : Nat) : Rat) := by rw [Ex.castmul]; exact m
    exact_mod_cast this
  have hx : x * (x.den : Rat) = ((x.num.natAbs : Nat) : Rat) := by rw [Ex.denR x, ← castZn, num_abs (Rat.le_of_lt h0)]
  obtain ⟨R1, R2, fr, r1, rB, r2, r3, re⟩ := incg_row (N := x.num.natAbs) (D := x.den) (w := w) (n := n) hn hn2 x.den_pos hN (Nat.le_trans zx.1 (by omega)) (Nat.le_trans zx.2 (by omega)) (by omega) (by omega)
  have fr' := fr false
  rw [← er] at fr'
  obtain ⟨s1, hs1⟩ := re x hx
  have Pw := p2_pos w
  have hm : m ≤ 2 ^ w := by
    have e := (hs2 (s2 + 1) (by omega)).1
    have k := Rat.le_trans e (Rat.mul_le_mul_of_nonneg_right (ev_le1 (z := -x) nx (show 1 ≤ s2 + 1 by omega)).1 (Rat.le_of_lt Pw))
    rw [Rat.one_mul] at k
    exact_mod_cast k
  have P8 : 2 ^ 8 ≤ 2 ^ w := Nat.pow_le_pow_right (by omega) (by omega)
  have e2 : 2 ^ (w + 2) = 2 ^ w * 4 := Nat.pow_add _ _ _
  have lp := lim_len_pw (n := 2 ^ w) (w := w + 2) (by omega)
  have lm2 := lim_len_pw (n := m + 1) (w := w + 2) (by omega)
  have lm1 := lim_len_mono (show m ≤ m + 1 by omega)
  have lm3 := lim_len_pw (n := m + 1 + 1) (w := w + 2) (by omega)
  have fb := fix_Ball (w := w) (lo := mkRat (m : Int) (2 ^ w)) (hi := mkRat ((m + 1 : Nat) : Int) (2 ^ w)) (L := 200) (szR_nat (by omega) (by omega) (by omega)) (szR_nat (by omega) (by omega) (by omega)) (by omega) (by omega)
  rw [unN_mk, unN_mk] at fb
  obtain ⟨g1, g2, g3⟩ := ig_at hn hn2
  obtain ⟨u1, u2, u3⟩ := mulS (w := w) p1 r1 p2' r2 p3 r3
  obtain ⟨y1, y2, y3⟩ := mulS (w := w) (β := 2) (δ := 2) u1 (show m ≤ m + 1 + 1 by omega) u2 (show m + 1 + 1 ≤ 2 * 2 ^ w by omega) u3 (show m + 1 + 1 ≤ m + 2 by omega)
  have ve : ∀ s, lo ≤ s → s ≤ hi → ∃ L0, ∀ L, L0 ≤ L → Enc w (A * R1 / 2 ^ w * m / 2 ^ w) ((B * R2 / 2 ^ w + 1) * (m + 1 + 1) / 2 ^ w + 1) (igV n s x L) := by
    intro s q1 q2
    refine ⟨s1 + s2, fun L hL => ?_⟩
    exact enc_mul (enc_mul (pe s q1 q2) (hs1 L (by omega))) (enc_wider (n := 1) (hs2 L (by omega)))
  clear pe hs1 hs2 re fr g2 g3 hx hN
  have K : (igP n).1 * ((igR n).1 + 1) + 1 ≤ 2 ^ 119 := by omega
  have tw : ∀ k z Z, z ≤ 2 ^ k → Z ≤ z * 2 ^ w → Z ≤ 2 ^ (w + k) := by
    intro k z Z hz hZ
    rw [Nat.add_comm w, Nat.pow_add]
    exact Nat.le_trans hZ (Nat.mul_le_mul_right _ hz)
  have lA : (igP n).1 ≤ 2 ^ 119 := by
    have := Nat.le_mul_of_pos_right (igP n).1 (show 0 < (igR n).1 + 1 by omega)
    omega
  have bB := tw 119 _ _ lA p2'
  have uB := tw 119 _ _ K u2
  have sB := tw 121 _ _ (by omega) y2
  have up : ∀ k, k ≤ 121 → 2 ^ (w + k) < 2 ^ (w + 122) := fun k hk => Nat.pow_lt_pow_right (by omega) (by omega)
  have gap : (B * R2 / 2 ^ w + 1) * (m + 1 + 1) / 2 ^ w + 1 ≤ A * R1 / 2 ^ w * m / 2 ^ w + 2 ^ (w - (P + 2)) := by
    have : 2 ^ 120 ≤ 2 ^ (w - (P + 2)) := Nat.pow_le_pow_right (by omega) (by omega)
    omega
  have lB := lim_len_pw (Nat.lt_of_le_of_lt bB (up 119 (by omega)))
  have lA' := lim_len_mono p1
  have lR := lim_len_pw rB
  have lR1 := lim_len_mono r1
  have lU := lim_len_pw (Nat.lt_of_le_of_lt uB (up 119 (by omega)))
  have lU1 := lim_len_mono u1
  have m1 := fix_Mul (a := A) (b := B) (c := R1) (d := R2) (w := w) (by omega) (by omega) (by omega) (by omega) (by omega) (by omega)
  have m2 := fix_Mul (a := A * R1 / 2 ^ w) (b := B * R2 / 2 ^ w + 1) (c := m) (d := m + 1 + 1) (w := w) (by omega) (by omega) (by omega) (by omega) (by omega) (by omega)
  have sS : (B * R2 / 2 ^ w + 1) * (m + 1 + 1) / 2 ^ w + 1 < 2 ^ (w + 10040) := Nat.lt_of_lt_of_le (Nat.lt_of_le_of_lt sB (up 121 (by omega))) (Nat.pow_le_pow_right (by omega) (by omega))
  obtain ⟨l, h, t1, -, t3, t4, t5, t6, ft⟩ := told_span (p := P + 2) y1 sS (by omega) (by omega)
  have thin := told_thin (p := P) (by omega) gap
  rw [← t5, ← t6] at thin
  refine ⟨l, h, lo, hi, ?_, t1, t3, t4, thin, l0, lh, l1, l2, fun s q1 q2 => ?_⟩
  rotate_left
  · obtain ⟨L0, hL⟩ := ve s q1 q2
    refine ⟨L0, fun L h => ?_⟩
    have := told_in (q := P + 2) (by omega) (hL L h)
    rw [← t5, ← t6] at this
    exact this
  have x1 : (if (0 : Int) > pI then (0 : Int) else pI) = (P : Int) := by split <;> omega
  have x2 : (if (200 : Int) < (P : Int) then (200 : Int) else (P : Int)) = (P : Int) := if_neg (by omega)
  clear ve thin t1 t3 t4 t5 t6 sS gap lB lA' lR lR1 lU lU1 up sB uB bB lA tw K y1 y2 y3 u1 u2 u3 g1 l0 lh l1 l2 p1 p2' p3 r1 r2 r3 rB lp lm lm1 lm2 lm3 P8 e2 hm h0 h64 zn hpI nx
  rw [er] at nm io zr ng fp fr'
  rw [show ((w : Nat) : Int) = (P : Int) + 128 by omega] at fp fr' fe fb m1 m2 ft
  rw [show ((P + 2 : Nat) : Int) = (P : Int) + 2 from rfl] at ft
  generalize mkRat (m : Int) (2 ^ w) = q1 at *
  generalize mkRat ((m + 1 : Nat) : Int) (2 ^ w) = q2 at *
  generalize A * R1 / 2 ^ w * m / 2 ^ w = S1 at *
  generalize (B * R2 / 2 ^ w + 1) * (m + 1 + 1) / 2 ^ w + 1 = S2 at *
  generalize A * R1 / 2 ^ w = U1 at *
  generalize B * R2 / 2 ^ w + 1 = U2 at *
  generalize m + 1 + 1 = m2' at *
  generalize -x = nx at *
  obtain ⟨s0, n0, d0, rfl, -⟩ := hv
  refine Go.Ev.Fn.intro (fn := Tryz.f16) (body := (Tryz.f16).body.get!) (by kernel_rfl) (by kernel_rfl) (by kernel_rfl) (fun _ => rfl) (Nat.le_of_ble_eq_true (by kernel_rfl)) ?_; unfold Tryz.f16; simp only [Option.get!_some]
  repeat (first | (simp only [go_sem, Nat.reduceEqDiff, Nat.reduceAdd, Nat.reduceSub, Nat.reduceMul, Nat.reduceLeDiff, Nat.reduceLT, reduceIte, reduceCtorEq, Nat.succ_ne_zero, elemsC, Int.reduceToNat, Nat.reducePow, x1, x2, Bool.not_false]) | (simp (disch := (first | omega | (simp only [AL, List.length_map]; omega))) only [AR, AL, ifT, ifF, take_all, List.length_cons, List.length_nil, Int.reduceToNat, Int.reducePow, Nat.reducePow, x1, x2, Bool.not_false]) | (refine wk_intro (by kernel_rfl) ?_) | (refine vp_draw (id := 3) (l := []) (by kernel_rfl) ?_) | (refine vp_draw (id := 7) (l := []) (by kernel_rfl) ?_) | (refine vp_draw (id := 8) (l := []) (by kernel_rfl) ?_) | (refine vf_of (by first | exact nm | exact io | exact zr | exact ng | exact fe | exact fp | exact fr' | exact m1 | exact fb | exact m2 | exact ft) ?_))
end
end Go.Proofs.YtemnjalaincijaaGreat
namespace Go.Proofs.YtemnjalaincijaaGreat
open Go.Ev
section
variable {v : SV} {x : Rat} {w n : Nat}
end
end Go.Proofs.YtemnjalaincijaaGreat
namespace Go.Proofs.YtemnjalaincijaaGreat
open Go.Ev
section
variable {x : Rat} {A B w : Nat}
end
end Go.Proofs.YtemnjalaincijaaGreat
namespace Go.Proofs.YtemnjalaincijaaGreat
open Go.Ev
section
variable {x y : Rat}
end
section
variable {x : Rat} {A B w : Nat}
end
end Go.Proofs.YtemnjalaincijaaGreat
namespace Go.Proofs.YtemnjalaincijaaGreat
open Go.Ev
theorem neg_num {x : Rat} : decide (x.num < 0) = decide (x < 0) := by
  have h := Rat.num_nonneg (q := x)
  refine decide_eq_decide.2 ⟨fun g => ?_, fun g => ?_⟩
  · have : ¬ 0 ≤ x := fun k => absurd (h.2 k) (by omega)
    grind
  · rcases Int.lt_or_le x.num 0 with k | k
    · exact k
    · exact absurd (h.1 k) (by grind)
section
variable {v : SV} {x : Rat} {A B p L : Nat}
theorem erv {x : Rat} (h : decide (x.num < 0) = false) : rv x = ratV false (lim x.num.natAbs) (lim x.den) := by show ratV (decide (x.num < 0)) _ _ = _; rw [h]
end
end Go.Proofs.YtemnjalaincijaaGreat
namespace Go.Proofs.YtemnjalaincijaaGreat
open Go.Ev
section
variable {v : SV} {x : Rat} {a b p L : Nat}
end
end Go.Proofs.YtemnjalaincijaaGreat
namespace Go.Proofs.YtemnjalaincijaaGreat
open Go.Ev
end Go.Proofs.YtemnjalaincijaaGreat
namespace Go.Proofs.YtemnjalaincijaaGreat
open Go.Ev
section
variable {v : SV} {x : Rat} {L a b p : Nat}
end
end Go.Proofs.YtemnjalaincijaaGreat
namespace Go.Proofs.YtemnjalaincijaaGreat
open Go.Ev
section
variable {v : SV} {x : Rat} {w n : Nat}
end
end Go.Proofs.YtemnjalaincijaaGreat
namespace Go.Proofs.YtemnjalaincijaaGreat
open Go.Ev
theorem ref4_AddE {a b c d : Rat} {L M : Nat} (ha : szR a L) (hb : szR b L) (hc : szR c M) (hd : szR d M) (hL1 : 1 ≤ L) (hM1 : 1 ≤ M) (hL : L + M ≤ 100000) : Go.Ev.Fn CX 27 [ballR a b, ballR c d] (ballR (a + c) (b + d)) := by
  have s1 := ref2_Add (RatA_rv ha) (RatA_rv hc) hL1 hM1 (by omega)
  have s2 := ref2_Add (RatA_rv hb) (RatA_rv hd) hL1 hM1 (by omega)
  generalize a + c = x at *
  generalize b + d = y at *
  refine Go.Ev.Fn.intro (fn := Tryz.f27) (body := (Tryz.f27).body.get!) (by kernel_rfl) (by kernel_rfl) (by kernel_rfl) (fun _ => rfl) (Nat.le_of_ble_eq_true (by kernel_rfl)) ?_; unfold Tryz.f27; simp only [Option.get!_some]
  repeat (first | (simp only [go_sem, Nat.reduceEqDiff, Nat.reduceAdd, Nat.reduceSub, Nat.reduceMul, Nat.reduceLeDiff, Nat.reduceLT, reduceIte, reduceCtorEq, Nat.succ_ne_zero, elemsC, Int.reduceToNat, Nat.reducePow]) | (simp (disch := (first | omega | (simp only [AL, List.length_map]; omega))) only [AR, AL, ifT, ifF, take_all, List.length_cons, List.length_nil, Int.reduceToNat, Int.reducePow, Nat.reducePow]) | (refine wk_intro (by kernel_rfl) ?_) | (refine vp_draw (id := 1) (l := []) (by kernel_rfl) ?_) | (refine vf_of (by first | exact s1 | exact s2) ?_))
theorem wf_int64E {n : Int} (h : (Lit.int .i64 n).wf = true) : -9223372036854775808 ≤ n ∧ n < 9223372036854775808 := by
  have h' : decide (IntKind.i64.min ≤ n ∧ n ≤ IntKind.i64.max) = true := by simpa [Lit.wf] using h
  have := of_decide_eq_true h'
  simp only [show IntKind.i64.min = -9223372036854775808 from rfl, show IntKind.i64.max = 9223372036854775807 from rfl] at this
  omega
section
variable {z : Rat} {p : Int} {s : Bool} {n d : List Nat}
end
end Go.Proofs.YtemnjalaincijaaGreat
