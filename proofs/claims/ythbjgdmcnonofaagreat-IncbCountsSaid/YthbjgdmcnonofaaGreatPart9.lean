/- Part 9 of the proof: the evaluator, contracts of functions and their plain laws (joined by program). No condition. -/
import Derived.Test.YthbjgdmcnonofaaGreatPart8
/- vernierref8: part, small, PiIv, in the evaluator. -/
namespace Go.Proofs.YthbjgdmcnonofaaGreat
set_option linter.unusedSimpArgs false
set_option linter.unusedVariables false
set_option maxRecDepth 8000
open Go.Ev
theorem pin_eq {α : Type} (n : Nat) (f : Nat → α) : pin n f = f n := by cases n <;> rfl
/-- From one natural to another. -/
abbrev ivN (a b : Nat) : SV := .agg [.bool false, natV (lim a), .bool false, natV (lim b)]
abbrev intN (a : Nat) : SV := .agg [.bool false, natV (lim a)]
theorem intN_eq (n : Nat) : intV (n : Int) = intN n := iv_eq (Int.natAbs_natCast n) (decide_eq_false (by omega))
theorem ivN_eq (m n : Nat) : ivV (m : Int) (n : Int) = ivN m n := by
  show SV.agg [.bool (decide ((m : Int) < 0)), natV (lim (m : Int).natAbs), .bool (decide ((n : Int) < 0)), natV (lim (n : Int).natAbs)] = _
  rw [Int.natAbs_natCast, Int.natAbs_natCast, decide_eq_false (by omega), decide_eq_false (by omega)]
theorem cdv_le {a b c : Nat} (hb : 0 < b) (h : a ≤ c * b) : cdv a b ≤ c := by
  unfold cdv
  rw [Nat.div_le_iff_le_mul hb]
  omega
theorem div_le_cdv {a b d : Nat} (hd : 0 < d) (h : a ≤ b) : a / d ≤ cdv b d := by
  unfold cdv
  exact Nat.div_le_div_right (by omega)
theorem cdZ_nat {n d : Nat} (hd : 0 < d) : cdZ (n : Int) d = (cdv n d : Int) := by
  unfold cdZ cdv
  rw [fall_eq (a := -(n : Int)) (by omega), Int.natAbs_neg, Int.natAbs_natCast]
  have hm := Nat.div_add_mod n d
  have hl := Nat.mod_lt n hd
  by_cases h0 : n % d = 0
  · rw [if_neg (fun h => h.2 h0)]
    have e : (n + d - 1) / d = n / d := by
      rw [show n + d - 1 = (d - 1) + d * (n / d) by omega, Nat.add_mul_div_left _ _ hd, Nat.div_eq_of_lt (by omega), Nat.zero_add]
    rw [e]
    by_cases hn : n = 0
    · subst hn; simp [sgn]
    · rw [decide_eq_true (by omega)]
      show -(-((n / d : Nat) : Int)) = _
      omega
  · have hn : n ≠ 0 := by rintro rfl; simp at h0
    rw [if_pos ⟨by omega, h0⟩]
    have e : (n + d - 1) / d = n / d + 1 := by
      rw [show n + d - 1 = (n % d - 1) + d * (n / d + 1) by rw [Nat.mul_add]; omega, Nat.add_mul_div_left _ _ hd, Nat.div_eq_of_lt (by omega), Nat.zero_add]
    rw [e]
    omega
theorem loQ_nat {a b c d : Nat} (h1 : a ≤ b) (h2 : c ≤ d) : loQ a b c d = ((a * c : Nat) : Int) := by
  have e1 : a * c ≤ a * d := Nat.mul_le_mul_left _ h2
  have e2 : a * c ≤ b * c := Nat.mul_le_mul_right _ h1
  have e3 : a * c ≤ b * d := Nat.mul_le_mul h1 h2
  unfold loQ loP mnZ
  rw [← Int.natCast_mul, ← Int.natCast_mul, ← Int.natCast_mul, ← Int.natCast_mul]
  rw [if_neg (show ¬ ((a * d : Nat) : Int) < ((a * c : Nat) : Int) by omega), if_neg (show ¬ ((b * c : Nat) : Int) < ((a * c : Nat) : Int) by omega), if_neg (by omega)]
  rfl
theorem hiQ_nat {a b c d : Nat} (h1 : a ≤ b) (h2 : c ≤ d) : hiQ a b c d = ((b * d : Nat) : Int) := by
  have e1 : a * c ≤ a * d := Nat.mul_le_mul_left _ h2
  have e2 : a * c ≤ b * c := Nat.mul_le_mul_right _ h1
  have e3 : b * c ≤ b * d := Nat.mul_le_mul_left _ h2
  have e4 : a * d ≤ b * d := Nat.mul_le_mul_right _ h1
  unfold hiQ hiP mxZ
  rw [← Int.natCast_mul, ← Int.natCast_mul, ← Int.natCast_mul, ← Int.natCast_mul]
  repeat' split
  all_goals omega
theorem ref4_ProdN {a b c d w : Nat} (h1 : a ≤ b) (h2 : c ≤ d) (hb : (lim b).length ≤ 10000) (hd : (lim d).length ≤ 10000) (hw : w ≤ 4096) (h0 : 0 < w) :
    Go.Ev.Fn CX 89 [ivN a b, ivN c d, .int .i64 (w : Int)] (ivN (a * c / 2 ^ w) (cdv (b * d) (2 ^ w))) := by
  have la := lim_len_mono h1
  have lc := lim_len_mono h2
  have h := ref4_Prod (a := (a : Int)) (b := (b : Int)) (c := (c : Int)) (d := (d : Int)) (w := w) (by rw [Int.natAbs_natCast]; omega) (by rw [Int.natAbs_natCast]; omega) (by rw [Int.natAbs_natCast]; omega) (by rw [Int.natAbs_natCast]; omega) hw h0
  rw [loQ_nat h1 h2, hiQ_nat h1 h2, cdZ_nat (Nat.pow_pos (by omega)), ← Int.natCast_ediv, ivN_eq, ivN_eq, ivN_eq] at h
  exact h
theorem ref4_ByN {a b n : Nat} (ha : (lim a).length ≤ 100000) (hb : (lim b).length ≤ 100000) (h0 : 0 < n) (hn : n < 9223372036854775808) : Go.Ev.Fn CX 174 [ivN a b, .int .i64 (n : Int)] (ivN (a / n) (cdv b n)) := by
  have h := ref4_By (a := (a : Int)) (b := (b : Int)) (by rw [Int.natAbs_natCast]; omega) (by rw [Int.natAbs_natCast]; omega) n h0 hn
  rw [cdZ_nat h0, ← Int.natCast_ediv, ivN_eq, ivN_eq] at h
  exact h
theorem ref4_MinusN {x y : Int} {c d : Nat} (hx : (lim x.natAbs).length ≤ 100000) (hy : (lim y.natAbs).length ≤ 100000) (hc : (lim c).length ≤ 100000) (hd : (lim d).length ≤ 100000) : Go.Ev.Fn CX 61 [ivV x y, ivN c d] (ivV (x - d) (y - c)) := by
  have h := ref4_Minus (c := (c : Int)) (d := (d : Int)) hx hy (by rw [Int.natAbs_natCast]; omega) (by rw [Int.natAbs_natCast]; omega)
  rw [ivN_eq] at h
  exact h
theorem ref4_SumN {x y : Int} {c d : Nat} (hx : (lim x.natAbs).length ≤ 100000) (hy : (lim y.natAbs).length ≤ 100000) (hc : (lim c).length ≤ 100000) (hd : (lim d).length ≤ 100000) : Go.Ev.Fn CX 175 [ivV x y, ivN c d] (ivV (x + c) (y + d)) := by
  have h := ref4_Sum (c := (c : Int)) (d := (d : Int)) hx hy (by rw [Int.natAbs_natCast]; omega) (by rw [Int.natAbs_natCast]; omega)
  rw [ivN_eq] at h
  exact h
theorem ref4_MostN {a b : Nat} (h1 : a ≤ b) (hb : (lim b).length ≤ 100000) : Go.Ev.Fn CX 176 [ivN a b] (intN b) := by
  have la := lim_len_mono h1
  have h := ref4_Most (a := (a : Int)) (b := (b : Int)) (by rw [Int.natAbs_natCast]; omega) (by rw [Int.natAbs_natCast]; omega)
  rw [Int.natAbs_natCast, Int.natAbs_natCast, Nat.max_eq_right h1, ivN_eq, intN_eq] at h
  exact h
theorem ref4_CmpN {a b : Nat} (ha : (lim a).length ≤ 100000) (hb : (lim b).length ≤ 100000) : Go.Ev.Fn CX 157 [intN a, intN b] (.int .i64 (cmpZ a b)) := by
  have h := ref4_Cmp (a : Int) (b : Int) (by rw [Int.natAbs_natCast]; omega) (by rw [Int.natAbs_natCast]; omega)
  rw [intN_eq, intN_eq] at h
  exact h
theorem lim_len_p2 {n w : Nat} (h : n ≤ 2 ^ w) (hw : w ≤ 1000) : (lim n).length ≤ 40 := by
  have l := lim_len_shl (a := 1) (n := w)
  have l1 := lim_len1
  rw [Nat.one_mul] at l
  have := lim_len_mono h
  omega
section
variable {w s1 s2 : Nat}
set_option maxHeartbeats 1000000 in
theorem ref8_small {v : SV} {q : Rat} {d A B : Nat} (hv : RatA v q 2) (hq : q.num = 1) (hd : q.den = d) (hdd : 0 < d) (hw : w ≤ 400) (hw0 : 0 < w) (hs : smF d w = some (A, B)) :
    Go.Ev.Fn CX 153 [v, .int .i64 (w : Int)] (ivN A B) := by
  have nm := ref4_Num hv (w := w) (by omega) (by omega) (by omega)
  rw [hq, hd, Int.one_mul, cdZ_nat hdd, ← Int.natCast_ediv, ivN_eq] at nm
  unfold smF at hs
  rw [pin_eq, pin_eq, pin_eq, pin_eq] at hs
  have hP : 0 < 2 ^ w := Nat.pow_pos (by omega)
  have y2T : cdv (2 ^ w) d ≤ 2 ^ w := cdv_le hdd (Nat.le_mul_of_pos_right _ hdd)
  have y12 : 2 ^ w / d ≤ cdv (2 ^ w) d := by
    unfold cdv
    exact Nat.div_le_div_right (by omega)
  generalize 2 ^ w / d = y1 at *
  generalize cdv (2 ^ w) d = y2 at *
  have ly2 := lim_len_p2 y2T (by omega)
  have ps := ref4_ProdN (a := y1) (b := y2) (c := y1) (d := y2) (w := w) y12 y12 (by omega) (by omega) (by omega) hw0
  have s2T : cdv (y2 * y2) (2 ^ w) ≤ 2 ^ w := cdv_le hP (Nat.mul_le_mul y2T y2T)
  have s12 : y1 * y1 / 2 ^ w ≤ cdv (y2 * y2) (2 ^ w) := by
    unfold cdv
    refine Nat.div_le_div_right ?_
    have := Nat.mul_le_mul y12 y12
    omega
  generalize y1 * y1 / 2 ^ w = s1 at *
  generalize cdv (y2 * y2) (2 ^ w) = s2 at *
  have ls2 := lim_len_p2 s2T (by omega)
  split at hs
  · rename_i A1 A2 B1 B2 hgo
    by_cases hfin : B2 + 4 ≤ A1 ∧ B1 ≤ A2
    · rw [if_pos hfin] at hs
      obtain ⟨rfl, rfl⟩ : A1 - B2 - 4 = A ∧ A2 - B1 + 4 = B := by simpa using hs
      clear hs
      have w2 := ref4_Whole 2 (by omega)
      rw [show (2 : Int) = ((2 : Nat) : Int) from rfl, intN_eq] at w2
      have l2 : (lim 2).length ≤ 1 := lim_len_one (by decide)
      obtain ⟨s0, n0, d0, rfl, -⟩ := hv
      refine Go.Ev.Fn.intro (fn := Tryz.f153) (body := (Tryz.f153).body.get!) (by kernel_rfl) (by kernel_rfl) (by kernel_rfl) (fun _ => rfl) (Nat.le_of_ble_eq_true (by kernel_rfl)) ?_; unfold Tryz.f153; simp only [Option.get!_some]
      repeat (first | (simp only [go_sem, Nat.reduceEqDiff, Nat.reduceAdd, Nat.reduceSub, Nat.reduceMul, Nat.reduceLeDiff, Nat.reduceLT, reduceIte, reduceCtorEq, Nat.succ_ne_zero, elemsC, Int.reduceToNat, Nat.reducePow]) | (simp (disch := (first | omega | (simp only [AL, List.length_map]; omega))) only [AR, AL, ifT, ifF, take_all, List.length_cons, List.length_nil, Int.reduceToNat, Int.reducePow, Nat.reducePow]) | (refine wk_intro (by kernel_rfl) ?_) | (refine vp_draw (id := 3) (l := []) (by kernel_rfl) ?_) | (refine vf_of (by first | exact nm | exact ps) ?_))
      refine vp_loop_inv (fun s => s.tmp 1 = .sv (.int .i64 (w : Int)) ∧ s.tmp 4 = .ptr 4 0 0 ∧ s.obj 4 0 = some [.bool false, .sl 0 [], .bool false, .sl 0 []] ∧ s.tmp 6 = .ptr 6 0 0 ∧ s.obj 6 0 = some [.bool false, natV (lim s1), .bool false, natV (lim s2)] ∧ s.tmp 7 = .ptr 7 0 0 ∧ s.tmp 8 = .ptr 8 0 0 ∧
          ∃ (f i t1 t2 a1 a2 b1 b2 : Nat) (x y : Int), s.tmp 9 = .sv (.int .i64 (i : Int)) ∧ f + i = 1001 ∧ 1 ≤ i ∧ smGo w s1 s2 f i (decide (i % 2 = 1)) t1 t2 a1 a2 b1 b2 = some (A1, A2, B1, B2) ∧
            s.obj 8 0 = some [.bool false, natV (lim t1), .bool false, natV (lim t2)] ∧ s.obj 7 0 = some [.bool (decide (x < 0)), natV (lim x.natAbs), .bool (decide (y < 0)), natV (lim y.natAbs)] ∧
            x = (a1 : Int) - b2 ∧ y = (a2 : Int) - b1 ∧ t1 ≤ t2 ∧ t2 ≤ 2 ^ w ∧ a1 ≤ i * 2 ^ w ∧ a2 ≤ i * 2 ^ w ∧ b1 ≤ i * 2 ^ w ∧ b2 ≤ i * 2 ^ w)
        (fun s => match s.tmp 9 with | .sv (.int _ i) => 1002 - i.toNat | _ => 0) ⟨rfl, rfl, rfl, rfl, rfl, rfl, rfl, 1000, 1, y1, y2, y1, y2, 0, 0, (y1 : Int), (y2 : Int), rfl, rfl, by omega, hgo, rfl, ?_, by omega, by omega, y12, y2T, by omega, by omega, by omega, by omega⟩ ?_
      · rw [show decide ((y1 : Int) < 0) = false from decide_eq_false (by omega), show decide ((y2 : Int) < 0) = false from decide_eq_false (by omega), Int.natAbs_natCast, Int.natAbs_natCast]
        rfl
      rintro s ⟨i1, i4, o4, i6, o6, i7, i8, f, i, t1, t2, a1, a2, b1, b2, x, y, i9, hfi, hi, hg, o8, o7, hx, hy, g1, g2, g3, g4, g5, g6⟩
      cases f with
      | zero => simp only [smGo] at hg; cases hg
      | succ f =>
        have lt2 := lim_len_p2 g2 (by omega)
        have pp := ref4_ProdN (a := t1) (b := t2) (c := s1) (d := s2) (w := w) g1 s12 (by omega) (by omega) (by omega) hw0
        have u2t : cdv (t2 * s2) (2 ^ w) ≤ t2 := cdv_le hP (Nat.mul_le_mul_left _ s2T)
        have u12 : t1 * s1 / 2 ^ w ≤ cdv (t2 * s2) (2 ^ w) := by
          unfold cdv
          refine Nat.div_le_div_right ?_
          have := Nat.mul_le_mul g1 s12
          omega
        have hbig : i * 2 ^ w ≤ 2 ^ (w + 10) := by
          rw [Nat.pow_add, Nat.mul_comm (2 ^ w)]
          exact Nat.mul_le_mul_right _ (by omega)
        have hpl : (i + 1) * 2 ^ w = i * 2 ^ w + 2 ^ w := by rw [Nat.add_mul, Nat.one_mul]
        have hi2 : 2 ^ w ≤ i * 2 ^ w := Nat.le_mul_of_pos_left _ (by omega)
        have big2 : i * 2 ^ w + i * 2 ^ w ≤ 2 ^ (w + 11) := by rw [show w + 11 = w + 10 + 1 by omega, Nat.pow_succ]; omega
        have nz : 2 * i + 1 ≠ 0 := by omega
        have by1 := ref4_ByN (a := t1 * s1 / 2 ^ w) (b := cdv (t2 * s2) (2 ^ w)) (n := 2 * i + 1) (Nat.le_trans (lim_len_mono (Nat.le_trans u12 u2t)) (by omega)) (Nat.le_trans (lim_len_mono u2t) (by omega)) (by omega) (by omega)
        have x2u : cdv (cdv (t2 * s2) (2 ^ w)) (2 * i + 1) ≤ cdv (t2 * s2) (2 ^ w) := cdv_le (by omega) (Nat.le_mul_of_pos_right _ (by omega))
        have x12 : t1 * s1 / 2 ^ w / (2 * i + 1) ≤ cdv (cdv (t2 * s2) (2 ^ w)) (2 * i + 1) := div_le_cdv (by omega) u12
        have mo := ref4_MostN (a := t1 * s1 / 2 ^ w) (b := cdv (t2 * s2) (2 ^ w)) u12 (Nat.le_trans (lim_len_mono u2t) (by omega))
        have cc := ref4_CmpN (a := cdv (t2 * s2) (2 ^ w)) (b := 2) (Nat.le_trans (lim_len_mono u2t) (by omega)) (by omega)
        have ec : decide (cmpZ ((cdv (t2 * s2) (2 ^ w) : Nat) : Int) ((2 : Nat) : Int) ≤ 0) = decide (cdv (t2 * s2) (2 ^ w) ≤ 2) := by rw [cmpZ_le]; exact decide_eq_decide.2 (by omega)
        have tm : (i : Int).tmod 2 = ((i % 2 : Nat) : Int) := _root_.id rfl
        simp only [smGo, pin_eq] at hg
        generalize cmpZ ((cdv (t2 * s2) (2 ^ w) : Nat) : Int) ((2 : Nat) : Int) = z at *
        generalize t1 * s1 / 2 ^ w = u1 at *
        generalize cdv (t2 * s2) (2 ^ w) = u2 at *
        generalize u1 / (2 * i + 1) = x1 at *
        generalize cdv u2 (2 * i + 1) = x2 at *
        have lu2 := lim_len_p2 (Nat.le_trans u2t g2) (by omega)
        have lx2 := lim_len_mono x2u
        have lx1 := lim_len_mono x12
        have lx := lim_len_p2 (n := x.natAbs) (w := w + 10) (by omega) (by omega)
        have ly := lim_len_p2 (n := y.natAbs) (w := w + 10) (by omega) (by omega)
        rw [show ((2 * i + 1 : Nat) : Int) = 2 * (i : Int) + 1 by omega] at by1
        rcases Nat.mod_two_eq_zero_or_one i with hpar | hpar
        · rw [hpar] at tm
          rw [hpar, show decide ((0 : Nat) = 1) = false from rfl] at hg
          replace hg : (if u2 ≤ 2 then some (a1 + x1, a2 + x2, b1, b2) else smGo w s1 s2 f (i + 1) true u1 u2 (a1 + x1) (a2 + x2) b1 b2) = some (A1, A2, B1, B2) := hg
          have sm := ref4_SumN (x := x) (y := y) (c := x1) (d := x2) (by omega) (by omega) (by omega) (by omega)
          have lX := lim_len_p2 (n := (x + x1).natAbs) (w := w + 11) (by omega) (by omega)
          have lY := lim_len_p2 (n := (y + x2).natAbs) (w := w + 11) (by omega) (by omega)
          by_cases hu : u2 ≤ 2
          · rw [decide_eq_true hu] at ec
            rw [if_pos hu] at hg
            have wd := ref4_Wide (a := x + x1) (b := y + x2) (by omega) (by omega) 4 (by omega)
            simp only [Option.some.injEq, Prod.mk.injEq] at hg
            rw [show x + x1 - 4 = ((A1 - B2 - 4 : Nat) : Int) by omega, show y + x2 + 4 = ((A2 - B1 + 4 : Nat) : Int) by omega, ivN_eq] at wd
            generalize x + x1 = X at *
            generalize y + x2 = Y at *
            clear hg hx hy
            repeat (first | (simp only [go_sem, Nat.reduceEqDiff, Nat.reduceAdd, Nat.reduceSub, Nat.reduceMul, Nat.reduceLeDiff, Nat.reduceLT, reduceIte, reduceCtorEq, Nat.succ_ne_zero, elemsC, Int.reduceToNat, Nat.reducePow, i1, i4, o4, i6, o6, i7, i8, i9, o8, o7, tm, ec]) | (simp (disch := (first | omega | (simp only [AL, List.length_map]; omega))) only [AR, AL, ifT, ifF, take_all, List.length_cons, List.length_nil, Int.reduceToNat, Int.reducePow, Nat.reducePow, i1, i4, o4, i6, o6, i7, i8, i9, o8, o7, tm, ec]) | (refine wk_intro (by kernel_rfl) ?_) | (refine vp_draw (id := 3) (l := []) (by kernel_rfl) ?_) | (refine vf_of (by first | exact pp | exact by1 | exact sm | exact mo | exact w2 | exact cc | exact wd) ?_))
          · rw [decide_eq_false hu] at ec
            rw [if_neg hu] at hg
            have hpar' : decide ((i + 1) % 2 = 1) = true := decide_eq_true (by omega)
            rw [← hpar'] at hg
            generalize hX : x + x1 = X at *
            generalize hY : y + x2 = Y at *
            repeat (first | (simp only [go_sem, Nat.reduceEqDiff, Nat.reduceAdd, Nat.reduceSub, Nat.reduceMul, Nat.reduceLeDiff, Nat.reduceLT, reduceIte, reduceCtorEq, Nat.succ_ne_zero, elemsC, Int.reduceToNat, Nat.reducePow, i1, i4, o4, i6, o6, i7, i8, i9, o8, o7, tm, ec]) | (simp (disch := (first | omega | (simp only [AL, List.length_map]; omega))) only [AR, AL, ifT, ifF, take_all, List.length_cons, List.length_nil, Int.reduceToNat, Int.reducePow, Nat.reducePow, i1, i4, o4, i6, o6, i7, i8, i9, o8, o7, tm, ec]) | (refine wk_intro (by kernel_rfl) ?_) | (refine vp_draw (id := 3) (l := []) (by kernel_rfl) ?_) | (refine vf_of (by first | exact pp | exact by1 | exact sm | exact mo | exact w2 | exact cc) ?_))
            exact ⟨⟨f, i + 1, u1, u2, a1 + x1, a2 + x2, b1, b2, X, Y, rfl, by omega, by omega, hg, rfl, rfl, by omega, by omega, by omega, by omega, by omega, by omega, by omega, by omega⟩, by omega⟩
        · rw [hpar] at tm
          rw [hpar, show decide ((1 : Nat) = 1) = true from rfl] at hg
          replace hg : (if u2 ≤ 2 then some (a1, a2, b1 + x1, b2 + x2) else smGo w s1 s2 f (i + 1) false u1 u2 a1 a2 (b1 + x1) (b2 + x2)) = some (A1, A2, B1, B2) := hg
          have sm := ref4_MinusN (x := x) (y := y) (c := x1) (d := x2) (by omega) (by omega) (by omega) (by omega)
          have lX := lim_len_p2 (n := (x - x2).natAbs) (w := w + 11) (by omega) (by omega)
          have lY := lim_len_p2 (n := (y - x1).natAbs) (w := w + 11) (by omega) (by omega)
          by_cases hu : u2 ≤ 2
          · rw [decide_eq_true hu] at ec
            rw [if_pos hu] at hg
            have wd := ref4_Wide (a := x - x2) (b := y - x1) (by omega) (by omega) 4 (by omega)
            simp only [Option.some.injEq, Prod.mk.injEq] at hg
            rw [show x - x2 - 4 = ((A1 - B2 - 4 : Nat) : Int) by omega, show y - x1 + 4 = ((A2 - B1 + 4 : Nat) : Int) by omega, ivN_eq] at wd
            generalize x - x2 = X at *
            generalize y - x1 = Y at *
            clear hg hx hy
            repeat (first | (simp only [go_sem, Nat.reduceEqDiff, Nat.reduceAdd, Nat.reduceSub, Nat.reduceMul, Nat.reduceLeDiff, Nat.reduceLT, reduceIte, reduceCtorEq, Nat.succ_ne_zero, elemsC, Int.reduceToNat, Nat.reducePow, i1, i4, o4, i6, o6, i7, i8, i9, o8, o7, tm, ec]) | (simp (disch := (first | omega | (simp only [AL, List.length_map]; omega))) only [AR, AL, ifT, ifF, take_all, List.length_cons, List.length_nil, Int.reduceToNat, Int.reducePow, Nat.reducePow, i1, i4, o4, i6, o6, i7, i8, i9, o8, o7, tm, ec]) | (refine wk_intro (by kernel_rfl) ?_) | (refine vp_draw (id := 3) (l := []) (by kernel_rfl) ?_) | (refine vf_of (by first | exact pp | exact by1 | exact sm | exact mo | exact w2 | exact cc | exact wd) ?_))
          · rw [decide_eq_false hu] at ec
            rw [if_neg hu] at hg
            have hpar' : decide ((i + 1) % 2 = 1) = false := decide_eq_false (by omega)
            rw [← hpar'] at hg
            generalize hX : x - x2 = X at *
            generalize hY : y - x1 = Y at *
            repeat (first | (simp only [go_sem, Nat.reduceEqDiff, Nat.reduceAdd, Nat.reduceSub, Nat.reduceMul, Nat.reduceLeDiff, Nat.reduceLT, reduceIte, reduceCtorEq, Nat.succ_ne_zero, elemsC, Int.reduceToNat, Nat.reducePow, i1, i4, o4, i6, o6, i7, i8, i9, o8, o7, tm, ec]) | (simp (disch := (first | omega | (simp only [AL, List.length_map]; omega))) only [AR, AL, ifT, ifF, take_all, List.length_cons, List.length_nil, Int.reduceToNat, Int.reducePow, Nat.reducePow, i1, i4, o4, i6, o6, i7, i8, i9, o8, o7, tm, ec]) | (refine wk_intro (by kernel_rfl) ?_) | (refine vp_draw (id := 3) (l := []) (by kernel_rfl) ?_) | (refine vf_of (by first | exact pp | exact by1 | exact sm | exact mo | exact w2 | exact cc) ?_))
            exact ⟨⟨f, i + 1, u1, u2, a1, a2, b1 + x1, b2 + x2, X, Y, rfl, by omega, by omega, hg, rfl, rfl, by omega, by omega, by omega, by omega, by omega, by omega, by omega, by omega⟩, by omega⟩
    · rw [if_neg hfin] at hs; cases hs
  · cases hs
end
theorem ref8_part {n : Nat} (hn : n < 4294967296) : Go.Ev.Fn CX 154 [.int .u32 (n : Int)] (rv (mkRat 1 n)) := by
  have o := ref2_Of false [1] [n] (by simp [okL]) (by simp [okL]; exact hn) (by simp) (by simp)
  rw [show wth [1] = 1 from rfl, show wth [n] = n by simp [wth]] at o
  have o' : Go.Ev.Fn CX 37 [.bool false, .sl 1 [.int .u32 1], .sl 1 [.int .u32 (n : Int)]] (rv (mkRat 1 n)) := o
  clear o
  generalize mkRat 1 n = q at *
  refine Go.Ev.Fn.intro (fn := Tryz.f154) (body := (Tryz.f154).body.get!) (by kernel_rfl) (by kernel_rfl) (by kernel_rfl) (fun _ => rfl) (Nat.le_of_ble_eq_true (by kernel_rfl)) ?_; unfold Tryz.f154; simp only [Option.get!_some]
  repeat (first | (simp only [go_sem, Nat.reduceEqDiff, Nat.reduceAdd, Nat.reduceSub, Nat.reduceMul, Nat.reduceLeDiff, Nat.reduceLT, reduceIte, reduceCtorEq, Nat.succ_ne_zero, elemsC, Int.reduceToNat, Nat.reducePow]) | (simp (disch := (first | omega | (simp only [AL, List.length_map]; omega))) only [AR, AL, ifT, ifF, take_all, List.length_cons, List.length_nil, Int.reduceToNat, Int.reducePow, Nat.reducePow]) | (refine wk_intro (by kernel_rfl) ?_) | (refine vf_of (by first | exact o') ?_))
theorem ref4_OftenN {a b n : Nat} (ha : (lim a).length ≤ 100000) (hb : (lim b).length ≤ 100000) (hn : n < 4294967296) : Go.Ev.Fn CX 155 [ivN a b, .int .i64 (n : Int)] (ivN (a * n) (b * n)) := by
  have h := ref4_Often (a := (a : Int)) (b := (b : Int)) (by rw [Int.natAbs_natCast]; omega) (by rw [Int.natAbs_natCast]; omega) (n : Int) (by omega)
  rw [← Int.natCast_mul, ← Int.natCast_mul, ivN_eq, ivN_eq] at h
  exact h
theorem ref4_BackN {a b n : Nat} (ha : (lim a).length ≤ 100000) (hb : (lim b).length ≤ 100000) (hn : n ≤ 4096) (h0 : 0 < n) : Go.Ev.Fn CX 91 [ivN a b, .int .i64 (n : Int)] (ivN (a / 2 ^ n) (cdv b (2 ^ n))) := by
  have h := ref4_Back (a := (a : Int)) (b := (b : Int)) (by rw [Int.natAbs_natCast]; omega) (by rw [Int.natAbs_natCast]; omega) n hn h0
  rw [cdZ_nat (Nat.pow_pos (by omega)), ← Int.natCast_ediv, ivN_eq, ivN_eq] at h
  exact h
/-- An angle's interval is no wider than so. -/
theorem smGo_bd {w s1 s2 T : Nat} (hs1 : s1 ≤ 2 ^ w) (hs : s2 ≤ 2 ^ w) : ∀ (f i : Nat) (odd : Bool) (t1 t2 a1 a2 b1 b2 : Nat) {A1 A2 B1 B2 : Nat}, smGo w s1 s2 f i odd t1 t2 a1 a2 b1 b2 = some (A1, A2, B1, B2) → t1 ≤ T → t2 ≤ T → A1 ≤ a1 + f * T ∧ A2 ≤ a2 + f * T := by
  intro f
  induction f with
  | zero => intro i odd t1 t2 a1 a2 b1 b2 A1 A2 B1 B2 h; simp only [smGo] at h; cases h
  | succ f ih =>
    intro i odd t1 t2 a1 a2 b1 b2 A1 A2 B1 B2 h ht1 ht
    have hP : 0 < 2 ^ w := Nat.pow_pos (by omega)
    have u1t : t1 * s1 / 2 ^ w ≤ t1 := (Nat.div_le_iff_le_mul hP).2 (by have := Nat.mul_le_mul_left t1 hs1; omega)
    have x1u := Nat.div_le_self (t1 * s1 / 2 ^ w) (2 * i + 1)
    have u2t : cdv (t2 * s2) (2 ^ w) ≤ t2 := cdv_le hP (Nat.mul_le_mul_left _ hs)
    have x2u : cdv (cdv (t2 * s2) (2 ^ w)) (2 * i + 1) ≤ cdv (t2 * s2) (2 ^ w) := cdv_le (by omega) (Nat.le_mul_of_pos_right _ (by omega))
    simp only [smGo, pin_eq] at h
    generalize cdv (t2 * s2) (2 ^ w) = u2 at *
    generalize cdv u2 (2 * i + 1) = x2 at *
    generalize t1 * s1 / 2 ^ w = u1 at *
    generalize u1 / (2 * i + 1) = x1 at *
    rw [Nat.add_mul, Nat.one_mul]
    cases odd with
    | true =>
      replace h : (if u2 ≤ 2 then some (a1, a2, b1 + x1, b2 + x2) else smGo w s1 s2 f (i + 1) false u1 u2 a1 a2 (b1 + x1) (b2 + x2)) = some (A1, A2, B1, B2) := h
      split at h
      · simp only [Option.some.injEq, Prod.mk.injEq] at h
        omega
      · have := ih _ _ _ _ _ _ _ _ h (by omega) (by omega)
        omega
    | false =>
      replace h : (if u2 ≤ 2 then some (a1 + x1, a2 + x2, b1, b2) else smGo w s1 s2 f (i + 1) true u1 u2 (a1 + x1) (a2 + x2) b1 b2) = some (A1, A2, B1, B2) := h
      split at h
      · simp only [Option.some.injEq, Prod.mk.injEq] at h
        omega
      · have := ih _ _ _ _ _ _ _ _ h (by omega) (by omega)
        omega
theorem smF_bd {d w A B : Nat} (hd : 0 < d) (hw : w ≤ 900) (h : smF d w = some (A, B)) : (lim A).length ≤ 50 ∧ (lim B).length ≤ 50 := by
  unfold smF at h
  rw [pin_eq, pin_eq, pin_eq, pin_eq] at h
  have hP : 0 < 2 ^ w := Nat.pow_pos (by omega)
  have y2T : cdv (2 ^ w) d ≤ 2 ^ w := cdv_le hd (Nat.le_mul_of_pos_right _ hd)
  have s2T : cdv (cdv (2 ^ w) d * cdv (2 ^ w) d) (2 ^ w) ≤ 2 ^ w := cdv_le hP (Nat.mul_le_mul y2T y2T)
  split at h
  · rename_i A1 A2 B1 B2 hgo
    have y1T : 2 ^ w / d ≤ 2 ^ w := Nat.div_le_self _ _
    have s1T : 2 ^ w / d * (2 ^ w / d) / 2 ^ w ≤ 2 ^ w := (Nat.div_le_iff_le_mul hP).2 (by have := Nat.mul_le_mul y1T y1T; omega)
    have hb := smGo_bd s1T s2T _ _ _ _ _ _ _ _ _ hgo y1T y2T
    split at h
    · simp only [Option.some.injEq, Prod.mk.injEq] at h
      have hbig : 2 ^ w * 2048 = 2 ^ (w + 11) := by rw [Nat.pow_add]
      have l1 := lim_len_p2 (n := B - 4) (w := w + 11) (by omega) (by omega)
      have l2 : (lim B).length ≤ 41 := Nat.le_trans (lim_len_mono (show B ≤ (B - 4) + 4 by omega)) (lim_len_add (L := 40) l1 (Nat.le_trans (lim_len_one (by decide)) (by omega)))
      exact ⟨Nat.le_trans (lim_len_p2 (n := A) (w := w + 11) (by omega) (by omega)) (by omega), by omega⟩
    · cases h
  · cases h
theorem ref8_PiIv {w lo hi : Nat} (hw : w ≤ 390) (h : piIv w = some (lo, hi)) : Go.Ev.Fn CX 88 [.int .i64 (w : Int)] (ivN lo hi) := by
  unfold piIv at h
  split at h
  · rename_i a1 a2 b1 b2 h1 h2
    split at h
    · rename_i hc
      obtain ⟨rfl, rfl⟩ : (a1 * 16 - b2 * 4) / 2 ^ 10 = lo ∧ cdv (a2 * 16 - b1 * 4) (2 ^ 10) = hi := by simpa using h
      clear h
      have p5 := ref8_part (n := 5) (by omega)
      have p239 := ref8_part (n := 239) (by omega)
      have z5 : szR (mkRat 1 5) 2 := ⟨lim_len_lt (by decide +kernel), lim_len_lt (by decide +kernel)⟩
      have z239 : szR (mkRat 1 239) 2 := ⟨lim_len_lt (by decide +kernel), lim_len_lt (by decide +kernel)⟩
      have s5 := ref8_small (d := 5) (RatA_rv z5) (by decide +kernel) (by decide +kernel) (by omega) (by omega) (by omega) h1
      have s239 := ref8_small (d := 239) (RatA_rv z239) (by decide +kernel) (by decide +kernel) (by omega) (by omega) (by omega) h2
      obtain ⟨g1, g2⟩ := smF_bd (by omega) (by omega) h1
      obtain ⟨g3, g4⟩ := smF_bd (by omega) (by omega) h2
      have o1 := ref4_OftenN (a := a1) (b := a2) (n := 16) (by omega) (by omega) (by omega)
      have o2 := ref4_OftenN (a := b1) (b := b2) (n := 4) (by omega) (by omega) (by omega)
      have l16 : (lim 16).length ≤ 1 := lim_len_one (by decide)
      have l4 : (lim 4).length ≤ 1 := lim_len_one (by decide)
      have e1 := lim_len_mul (a := a1) (b := 16)
      have e2 := lim_len_mul (a := a2) (b := 16)
      have e3 := lim_len_mul (a := b1) (b := 4)
      have e4 := lim_len_mul (a := b2) (b := 4)
      have m := ref4_MinusN (x := ((a1 * 16 : Nat) : Int)) (y := ((a2 * 16 : Nat) : Int)) (c := b1 * 4) (d := b2 * 4) (by rw [Int.natAbs_natCast]; omega) (by rw [Int.natAbs_natCast]; omega) (by omega) (by omega)
      rw [← Int.ofNat_sub hc.1, ← Int.ofNat_sub hc.2, ivN_eq, ivN_eq] at m
      have l5 := lim_len_mono (Nat.sub_le (a1 * 16) (b2 * 4))
      have l6 := lim_len_mono (Nat.sub_le (a2 * 16) (b1 * 4))
      have bk := ref4_BackN (a := a1 * 16 - b2 * 4) (b := a2 * 16 - b1 * 4) (n := 10) (by omega) (by omega) (by omega) (by omega)
      generalize (a1 * 16 - b2 * 4) / 2 ^ 10 = x at *
      generalize cdv (a2 * 16 - b1 * 4) (2 ^ 10) = y at *
      generalize a1 * 16 - b2 * 4 = x1 at *
      generalize a2 * 16 - b1 * 4 = x2 at *
      generalize a1 * 16 = x3 at *
      generalize a2 * 16 = x4 at *
      generalize b1 * 4 = x5 at *
      generalize b2 * 4 = x6 at *
      generalize mkRat 1 5 = q5 at *
      generalize mkRat 1 239 = q239 at *
      rw [show ((w + 10 : Nat) : Int) = (w : Int) + 10 by omega] at s5 s239
      refine Go.Ev.Fn.intro (fn := Tryz.f88) (body := (Tryz.f88).body.get!) (by kernel_rfl) (by kernel_rfl) (by kernel_rfl) (fun _ => rfl) (Nat.le_of_ble_eq_true (by kernel_rfl)) ?_; unfold Tryz.f88; simp only [Option.get!_some]
      repeat (first | (simp only [go_sem, Nat.reduceEqDiff, Nat.reduceAdd, Nat.reduceSub, Nat.reduceMul, Nat.reduceLeDiff, Nat.reduceLT, reduceIte, reduceCtorEq, Nat.succ_ne_zero, elemsC, Int.reduceToNat, Nat.reducePow]) | (simp (disch := (first | omega | (simp only [AL, List.length_map]; omega))) only [AR, AL, ifT, ifF, take_all, List.length_cons, List.length_nil, Int.reduceToNat, Int.reducePow, Nat.reducePow]) | (refine wk_intro (by kernel_rfl) ?_) | (refine vp_draw (id := 2) (l := []) (by kernel_rfl) ?_) | (refine vf_of (by first | exact p5 | exact s5 | exact p239 | exact s239 | exact o1 | exact o2 | exact m | exact bk) ?_))
    · cases h
  · cases h
end Go.Proofs.YthbjgdmcnonofaaGreat

/- The row of beta's share: a pure function on naturals that mirrors incb.row; it ends; how wide it gets: plain mathematics. -/
namespace Go.Proofs.YthbjgdmcnonofaaGreat
open Go.Ev
set_option linter.unusedVariables false
/-- incb.row's rounds. -/
def rowGo (w y1 y2 a b : Nat) : Nat → Nat → Nat → Nat → Nat → Nat → Option (Nat × Nat × Nat)
  | 0, _, _, _, _, _ => none
  | f + 1, k, t1, t2, a1, a2 => if b ≤ k ∧ t2 < 8 then some (a1, a2 + 64, k) else
    rowGo w y1 y2 a b f (k + 1) (t1 * y1 / 2 ^ w * (a + b + 2 * k) / (a + 2 + 2 * k)) ((t2 * y2 / 2 ^ w + 1) * (a + b + 2 * k) / (a + 2 + 2 * k) + 1)
      (a1 + t1 * y1 / 2 ^ w * (a + b + 2 * k) / (a + 2 + 2 * k)) (a2 + ((t2 * y2 / 2 ^ w + 1) * (a + b + 2 * k) / (a + 2 + 2 * k) + 1))
section
variable {P y1 y2 t1 t2 n m : Nat}
theorem up_half (hP : 200 ≤ P) (hy : 2 * y2 ≤ P + 2) : 100 * (t2 * y2 / P) ≤ 51 * t2 := by
  have h1 := Nat.div_mul_le_self (t2 * y2) P
  have h2 := Nat.mul_le_mul_left t2 hy
  have h3 : t2 * 200 ≤ t2 * P := Nat.mul_le_mul_left _ hP
  have h4 : 100 * (t2 * y2 / P) * P ≤ 51 * t2 * P := by
    have e1 : 100 * (t2 * y2 / P) * P = 100 * (t2 * y2 / P * P) := by rw [Nat.mul_assoc]
    have e2 : t2 * (2 * y2) = 2 * (t2 * y2) := by rw [Nat.mul_left_comm]
    have e3 : t2 * (P + 2) = t2 * P + 2 * t2 := by rw [Nat.mul_add]; omega
    have e4 : 51 * t2 * P = 51 * (t2 * P) := by rw [Nat.mul_assoc]
    omega
  exact Nat.le_of_mul_le_mul_right h4 (by omega)
/-- A quotient times a number is not above what it came from. -/
theorem quo_le {v n m c d : Nat} (hm : 0 < m) (h : d * n ≤ c * m) : d * (v * n / m) ≤ c * v := by
  have h1 := Nat.div_mul_le_self (v * n) m
  have h2 : d * (v * n / m) * m ≤ c * v * m := by
    have e1 : d * (v * n / m) * m = d * (v * n / m * m) := by rw [Nat.mul_assoc]
    have e2 : d * (v * n) = v * (d * n) := by rw [Nat.mul_left_comm]
    have e3 : c * v * m = v * (c * m) := by rw [Nat.mul_assoc, Nat.mul_left_comm]
    have h3 := Nat.mul_le_mul_left v h
    have h4 := Nat.mul_le_mul_left d h1
    omega
  exact Nat.le_of_mul_le_mul_right h2 hm
theorem quo_sub {v1 v2 n m : Nat} (h : v1 ≤ v2) (hm : 0 < m) : v2 * n / m ≤ v1 * n / m + (v2 - v1) * n / m + 1 := by
  have h1 := Nat.div_add_mod (v1 * n) m
  have h2 := Nat.div_add_mod ((v2 - v1) * n) m
  have m1 := Nat.mod_lt (v1 * n) hm
  have m2 := Nat.mod_lt ((v2 - v1) * n) hm
  have e : v2 * n = v1 * n + (v2 - v1) * n := by rw [← Nat.add_mul]; congr 1; omega
  have h3 : v2 * n < (v1 * n / m + (v2 - v1) * n / m + 2) * m := by
    rw [Nat.add_mul, Nat.add_mul, Nat.mul_comm _ m, Nat.mul_comm _ m]
    omega
  have := (Nat.div_lt_iff_lt_mul hm).2 h3
  omega
end
section
variable {w y1 y2 a b : Nat}
/-- Late terms fall by a fifth. -/
theorem late_step {k t2 : Nat} (hP : 200 ≤ 2 ^ w) (hy : 2 * y2 ≤ 2 ^ w + 2) (ha : 1 ≤ a) (hb : b ≤ 20) (hk : 200 ≤ k) (ht : 8 ≤ t2) : 5 * ((t2 * y2 / 2 ^ w + 1) * (a + b + 2 * k) / (a + 2 + 2 * k) + 1) ≤ 4 * t2 := by
  have h1 := up_half (t2 := t2) hP hy
  have h2 := quo_le (v := t2 * y2 / 2 ^ w + 1) (n := a + b + 2 * k) (m := a + 2 + 2 * k) (c := 21) (d := 20) (by omega) (by omega)
  omega
theorem row_late (hP : 200 ≤ 2 ^ w) (hy : 2 * y2 ≤ 2 ^ w + 2) (ha : 1 ≤ a) (hb : b ≤ 20) : ∀ (f k t1 t2 a1 a2 : Nat), 200 ≤ k → 4 ^ f * t2 < 8 * 5 ^ f → ∃ A B K, rowGo w y1 y2 a b (f + 1) k t1 t2 a1 a2 = some (A, B, K) ∧ K ≤ k + f := by
  intro f
  induction f with
  | zero =>
    intro k t1 t2 a1 a2 hk h
    refine ⟨a1, a2 + 64, k, ?_, by omega⟩
    rw [rowGo, if_pos ⟨by omega, by omega⟩]
  | succ f ih =>
    intro k t1 t2 a1 a2 hk h
    rw [rowGo]
    by_cases hs : b ≤ k ∧ t2 < 8
    · rw [if_pos hs]
      exact ⟨_, _, _, rfl, by omega⟩
    · rw [if_neg hs]
      have h1 := late_step (k := k) (t2 := t2) hP hy ha hb hk (by omega)
      obtain ⟨A, B, K, g1, g2⟩ := ih (k + 1) (t1 * y1 / 2 ^ w * (a + b + 2 * k) / (a + 2 + 2 * k)) ((t2 * y2 / 2 ^ w + 1) * (a + b + 2 * k) / (a + 2 + 2 * k) + 1) (a1 + t1 * y1 / 2 ^ w * (a + b + 2 * k) / (a + 2 + 2 * k)) (a2 + ((t2 * y2 / 2 ^ w + 1) * (a + b + 2 * k) / (a + 2 + 2 * k) + 1)) (by omega) (by
        rw [Nat.pow_succ, Nat.pow_succ] at h
        generalize (t2 * y2 / 2 ^ w + 1) * (a + b + 2 * k) / (a + 2 + 2 * k) + 1 = u at *
        have h2 := Nat.mul_le_mul_left (4 ^ f) h1
        have e1 : 4 ^ f * (5 * u) = 5 * (4 ^ f * u) := Nat.mul_left_comm _ _ _
        have e2 : 4 ^ f * (4 * t2) = 4 ^ f * 4 * t2 := by rw [Nat.mul_assoc]
        omega)
      exact ⟨A, B, K, g1, by omega⟩
/-- An early step grows less than fourfold. -/
theorem early_up {k t2 T : Nat} (hP : 200 ≤ 2 ^ w) (hy : 2 * y2 ≤ 2 ^ w + 2) (ha : 1 ≤ a) (hb : b ≤ 20) (ht : t2 ≤ T) (hT : 100 ≤ T) : (t2 * y2 / 2 ^ w + 1) * (a + b + 2 * k) / (a + 2 + 2 * k) + 1 ≤ 4 * T := by
  have h1 := up_half (t2 := t2) hP hy
  have h2 := quo_le (v := t2 * y2 / 2 ^ w + 1) (n := a + b + 2 * k) (m := a + 2 + 2 * k) (c := 7) (d := 1) (by omega) (by omega)
  omega
theorem mid_up {k t2 T : Nat} (hP : 200 ≤ 2 ^ w) (hy : 2 * y2 ≤ 2 ^ w + 2) (ha : 1 ≤ a) (hk : b ≤ k) (ht : t2 ≤ T) (hT : 100 ≤ T) : (t2 * y2 / 2 ^ w + 1) * (a + b + 2 * k) / (a + 2 + 2 * k) + 1 ≤ T := by
  have h1 := up_half (t2 := t2) hP hy
  have h2 := quo_le (v := t2 * y2 / 2 ^ w + 1) (n := a + b + 2 * k) (m := a + 2 + 2 * k) (c := 3) (d := 2) (by omega) (by omega)
  omega
/-- How far apart a term's ends get in a step. -/
theorem gap_step {k t1 t2 C : Nat} (hP : 200 ≤ 2 ^ w) (hy12 : y2 = y1 + 1) (hy1 : 2 * y1 ≤ 2 ^ w) (ht : t1 ≤ t2) (hC : t2 ≤ C * 2 ^ w) : t2 * y2 / 2 ^ w + 1 ≤ t1 * y1 / 2 ^ w + ((t2 - t1) / 2 + C + 4) := by
  subst hy12
  generalize 2 ^ w = P at *
  have e : t2 * (y1 + 1) = t1 * y1 + ((t2 - t1) * y1 + t2) := by
    have : t2 * y1 = t1 * y1 + (t2 - t1) * y1 := by rw [← Nat.add_mul]; congr 1; omega
    rw [Nat.mul_add]; omega
  have d1 := Nat.div_add_mod (t1 * y1) P
  have d2 := Nat.mod_lt (t1 * y1) (show 0 < P by omega)
  have h1 : (t2 - t1) * y1 ≤ ((t2 - t1) / 2 + 1) * P := by
    have h3 := Nat.mul_le_mul (show t2 - t1 ≤ 2 * ((t2 - t1) / 2 + 1) by omega) (Nat.le_refl y1)
    have h4 := Nat.mul_le_mul_left ((t2 - t1) / 2 + 1) hy1
    have e5 : 2 * ((t2 - t1) / 2 + 1) * y1 = ((t2 - t1) / 2 + 1) * (2 * y1) := by rw [Nat.mul_comm 2, Nat.mul_assoc]
    omega
  have h2 : t2 * (y1 + 1) < (t1 * y1 / P + ((t2 - t1) / 2 + C + 3)) * P := by
    have e6 : (t1 * y1 / P + ((t2 - t1) / 2 + C + 3)) * P = P * (t1 * y1 / P) + ((t2 - t1) / 2 + 1) * P + C * P + 2 * P := by
      have : (t2 - t1) / 2 + C + 3 = ((t2 - t1) / 2 + 1) + C + 2 := by omega
      rw [this]; simp only [Nat.add_mul]; rw [Nat.mul_comm _ P]; omega
    omega
  have := (Nat.div_lt_iff_lt_mul (show 0 < P by omega)).2 h2
  omega
theorem gap_quo {k v1 v2 D : Nat} (hv : v1 ≤ v2) (hm : 0 < a + 2 + 2 * k) {c d : Nat} (hd : 0 < d) (h : d * (a + b + 2 * k) ≤ c * (a + 2 + 2 * k)) (hD : v2 ≤ v1 + D) : d * (v2 * (a + b + 2 * k) / (a + 2 + 2 * k) + 1) ≤ d * (v1 * (a + b + 2 * k) / (a + 2 + 2 * k)) + c * D + 2 * d := by
  have h1 := quo_sub (n := a + b + 2 * k) (m := a + 2 + 2 * k) hv hm
  have h2 := quo_le (v := v2 - v1) hm h
  have h3 : c * (v2 - v1) ≤ c * D := Nat.mul_le_mul_left _ (by omega)
  generalize v2 * (a + b + 2 * k) / (a + 2 + 2 * k) = q2 at *
  generalize v1 * (a + b + 2 * k) / (a + 2 + 2 * k) = q1 at *
  generalize (v2 - v1) * (a + b + 2 * k) / (a + 2 + 2 * k) = q3 at *
  have h4 := Nat.mul_le_mul_left d h1
  have e1 : d * (q1 + q3 + 1) = d * q1 + d * q3 + d := by rw [Nat.mul_add, Nat.mul_add, Nat.mul_one]
  have e2 : d * (q2 + 1) = d * q2 + d := by rw [Nat.mul_add, Nat.mul_one]
  omega
/-- Terms, and what they sum to, in a row's first rounds and in its later ones. -/
def okT (w k t1 t2 a1 a2 T D : Nat) : Prop := t1 ≤ t2 ∧ a1 ≤ a2 ∧ t2 ≤ T ∧ t2 ≤ t1 + D ∧ a2 ≤ a1 + k * D + D ∧ a2 ≤ (k + 1) * T
theorem okT_early {k t1 t2 a1 a2 T D C : Nat} (hP : 200 ≤ 2 ^ w) (hy12 : y2 = y1 + 1) (hy1 : 2 * y1 ≤ 2 ^ w) (ha : 1 ≤ a) (hb : b ≤ 20) (hT : 100 ≤ T) (hC : T ≤ C * 2 ^ w) (hD : 14 * C + 62 ≤ D) (h : okT w k t1 t2 a1 a2 T D) :
    okT w (k + 1) (t1 * y1 / 2 ^ w * (a + b + 2 * k) / (a + 2 + 2 * k)) ((t2 * y2 / 2 ^ w + 1) * (a + b + 2 * k) / (a + 2 + 2 * k) + 1)
      (a1 + t1 * y1 / 2 ^ w * (a + b + 2 * k) / (a + 2 + 2 * k)) (a2 + ((t2 * y2 / 2 ^ w + 1) * (a + b + 2 * k) / (a + 2 + 2 * k) + 1)) (4 * T) (4 * D) := by
  obtain ⟨h1, h2, h3, h4, h5, h6⟩ := h
  have u := early_up (k := k) hP (show 2 * y2 ≤ 2 ^ w + 2 by omega) ha hb h3 hT
  have g := gap_step (k := k) hP hy12 hy1 h1 (Nat.le_trans h3 hC)
  have v12 : t1 * y1 / 2 ^ w ≤ t2 * y2 / 2 ^ w + 1 := Nat.le_succ_of_le (Nat.div_le_div_right (Nat.mul_le_mul h1 (by omega)))
  have q := gap_quo (a := a) (b := b) (k := k) (c := 7) (d := 1) v12 (by omega) (by omega) (by omega) g
  have q0 : t1 * y1 / 2 ^ w * (a + b + 2 * k) / (a + 2 + 2 * k) ≤ (t2 * y2 / 2 ^ w + 1) * (a + b + 2 * k) / (a + 2 + 2 * k) := Nat.div_le_div_right (Nat.mul_le_mul_right _ v12)
  generalize t1 * y1 / 2 ^ w * (a + b + 2 * k) / (a + 2 + 2 * k) = u1 at *
  generalize (t2 * y2 / 2 ^ w + 1) * (a + b + 2 * k) / (a + 2 + 2 * k) = u2 at *
  have e1 : (k + 1) * (4 * D) = 4 * (k * D) + 4 * D := by rw [Nat.add_mul, Nat.mul_left_comm]; omega
  have e2 : (k + 1 + 1) * (4 * T) = 4 * ((k + 1) * T) + 4 * T := by rw [Nat.add_mul, Nat.mul_left_comm]; omega
  have e3 : (k + 1) * T = k * T + T := by rw [Nat.add_mul]; omega
  refine ⟨?_, ?_, ?_, ?_, ?_, ?_⟩ <;> omega
theorem okT_mid {k t1 t2 a1 a2 T D C : Nat} (hP : 200 ≤ 2 ^ w) (hy12 : y2 = y1 + 1) (hy1 : 2 * y1 ≤ 2 ^ w) (ha : 1 ≤ a) (hk : b ≤ k) (hT : 100 ≤ T) (hC : T ≤ C * 2 ^ w) (hD : 14 * C + 62 ≤ D) (h : okT w k t1 t2 a1 a2 T D) :
    okT w (k + 1) (t1 * y1 / 2 ^ w * (a + b + 2 * k) / (a + 2 + 2 * k)) ((t2 * y2 / 2 ^ w + 1) * (a + b + 2 * k) / (a + 2 + 2 * k) + 1)
      (a1 + t1 * y1 / 2 ^ w * (a + b + 2 * k) / (a + 2 + 2 * k)) (a2 + ((t2 * y2 / 2 ^ w + 1) * (a + b + 2 * k) / (a + 2 + 2 * k) + 1)) T D := by
  obtain ⟨h1, h2, h3, h4, h5, h6⟩ := h
  have u := mid_up (k := k) hP (show 2 * y2 ≤ 2 ^ w + 2 by omega) ha hk h3 hT
  have g := gap_step (k := k) hP hy12 hy1 h1 (Nat.le_trans h3 hC)
  have v12 : t1 * y1 / 2 ^ w ≤ t2 * y2 / 2 ^ w + 1 := Nat.le_succ_of_le (Nat.div_le_div_right (Nat.mul_le_mul h1 (by omega)))
  have q := gap_quo (a := a) (b := b) (k := k) (c := 3) (d := 2) v12 (by omega) (by omega) (by omega) g
  have q0 : t1 * y1 / 2 ^ w * (a + b + 2 * k) / (a + 2 + 2 * k) ≤ (t2 * y2 / 2 ^ w + 1) * (a + b + 2 * k) / (a + 2 + 2 * k) := Nat.div_le_div_right (Nat.mul_le_mul_right _ v12)
  generalize t1 * y1 / 2 ^ w * (a + b + 2 * k) / (a + 2 + 2 * k) = u1 at *
  generalize (t2 * y2 / 2 ^ w + 1) * (a + b + 2 * k) / (a + 2 + 2 * k) = u2 at *
  have e1 : (k + 1) * D = k * D + D := by rw [Nat.add_mul]; omega
  have e2 : (k + 1 + 1) * T = (k + 1) * T + T := by rw [Nat.add_mul]; omega
  refine ⟨?_, ?_, ?_, ?_, ?_, ?_⟩ <;> omega
/-- The row ends; and what it ends in. -/
theorem row_mid {C T D : Nat} (hP : 200 ≤ 2 ^ w) (hy12 : y2 = y1 + 1) (hy1 : 2 * y1 ≤ 2 ^ w) (ha : 1 ≤ a) (hb : b ≤ 20) (hT : 100 ≤ T) (hC : T ≤ C * 2 ^ w) (hD : 14 * C + 62 ≤ D) {F : Nat} (hF : 4 ^ F * T < 8 * 5 ^ F) :
    ∀ (g k t1 t2 a1 a2 : Nat), b ≤ k → g + k = 200 → okT w k t1 t2 a1 a2 T D → ∃ A B K, rowGo w y1 y2 a b (g + F + 1) k t1 t2 a1 a2 = some (A, B, K) := by
  intro g
  induction g with
  | zero =>
    intro k t1 t2 a1 a2 hk hg h
    obtain ⟨A, B, K, e, -⟩ := row_late hP (show 2 * y2 ≤ 2 ^ w + 2 by omega) ha hb F k t1 t2 a1 a2 (by omega) (Nat.lt_of_le_of_lt (Nat.mul_le_mul_left _ h.2.2.1) hF)
    exact ⟨A, B, K, by rw [Nat.zero_add]; exact e⟩
  | succ g ih =>
    intro k t1 t2 a1 a2 hk hg h
    rw [show g + 1 + F + 1 = (g + F + 1) + 1 by omega, rowGo]
    by_cases hs : b ≤ k ∧ t2 < 8
    · rw [if_pos hs]; exact ⟨_, _, _, rfl⟩
    · rw [if_neg hs]
      exact ih _ _ _ _ _ (by omega) (by omega) (okT_mid hP hy12 hy1 ha hk hT hC hD h)
theorem row_early {C F : Nat} (hP : 200 ≤ 2 ^ w) (hy12 : y2 = y1 + 1) (hy1 : 2 * y1 ≤ 2 ^ w) (ha : 1 ≤ a) (hb : b ≤ 20) :
    ∀ (g k t1 t2 a1 a2 T D : Nat), k + g = b → 100 ≤ T → 4 ^ g * T ≤ C * 2 ^ w → 14 * C + 62 ≤ D → 4 ^ F * (4 ^ g * T) < 8 * 5 ^ F → okT w k t1 t2 a1 a2 T D → ∃ A B K, rowGo w y1 y2 a b (200 + F + 1 - k) k t1 t2 a1 a2 = some (A, B, K) := by
  intro g
  induction g with
  | zero =>
    intro k t1 t2 a1 a2 T D hk hT hC hD hF h
    rw [Nat.pow_zero, Nat.one_mul] at hC hF
    have := row_mid hP hy12 hy1 ha hb hT hC hD hF (200 - k) k t1 t2 a1 a2 (by omega) (by omega) h
    rw [show 200 - k + F + 1 = 200 + F + 1 - k by omega] at this
    exact this
  | succ g ih =>
    intro k t1 t2 a1 a2 T D hk hT hC hD hF h
    rw [show 200 + F + 1 - k = (200 + F + 1 - (k + 1)) + 1 by omega, rowGo, if_neg (by omega)]
    have hp : 1 ≤ 4 ^ (g + 1) := Nat.pow_pos (by omega)
    have hTC : T ≤ C * 2 ^ w := Nat.le_trans (Nat.le_mul_of_pos_left T hp) hC
    have hp2 : 4 ^ g * (4 * T) = 4 ^ (g + 1) * T := by rw [Nat.pow_succ, Nat.mul_assoc]
    exact ih (k + 1) _ _ _ _ (4 * T) (4 * D) (by omega) (by omega) (by rw [hp2]; exact hC) (by omega) (by rw [hp2]; exact hF) (okT_early hP hy12 hy1 ha hb hT hTC hD h)
end
end Go.Proofs.YthbjgdmcnonofaaGreat

/- The row of beta's share: what it ends in, what lies in it; powers: plain mathematics. -/
namespace Go.Proofs.YthbjgdmcnonofaaGreat
open Go.Ev
set_option linter.unusedVariables false
section
variable {w y1 y2 a b T D C : Nat}
def okK (w b T D k t1 t2 a1 a2 : Nat) : Prop := okT w k t1 t2 a1 a2 (4 ^ min k b * T) (4 ^ min k b * D)
theorem four_le {k b T : Nat} : T ≤ 4 ^ min k b * T ∧ 4 ^ min k b * T ≤ 4 ^ b * T :=
  ⟨Nat.le_mul_of_pos_left T (Nat.pow_pos (by omega)), Nat.mul_le_mul_right T (Nat.pow_le_pow_right (by omega) (Nat.min_le_right k b))⟩
theorem okK_step {k t1 t2 a1 a2 : Nat} (hP : 200 ≤ 2 ^ w) (hy12 : y2 = y1 + 1) (hy1 : 2 * y1 ≤ 2 ^ w) (ha : 1 ≤ a) (hb : b ≤ 20) (hT : 100 ≤ T) (hC : 4 ^ b * T ≤ C * 2 ^ w) (hD : 14 * C + 62 ≤ D) (h : okK w b T D k t1 t2 a1 a2) :
    okK w b T D (k + 1) (t1 * y1 / 2 ^ w * (a + b + 2 * k) / (a + 2 + 2 * k)) ((t2 * y2 / 2 ^ w + 1) * (a + b + 2 * k) / (a + 2 + 2 * k) + 1)
      (a1 + t1 * y1 / 2 ^ w * (a + b + 2 * k) / (a + 2 + 2 * k)) (a2 + ((t2 * y2 / 2 ^ w + 1) * (a + b + 2 * k) / (a + 2 + 2 * k) + 1)) := by
  have f1 := four_le (k := k) (b := b) (T := T)
  have f2 := four_le (k := k) (b := b) (T := D)
  unfold okK at h ⊢
  by_cases hk : b ≤ k
  · rw [Nat.min_eq_right (show b ≤ k + 1 by omega)]
    rw [Nat.min_eq_right hk] at h f1 f2
    exact okT_mid hP hy12 hy1 ha hk (by omega) hC (by omega) h
  · rw [Nat.min_eq_left (show k + 1 ≤ b by omega), show 4 ^ (k + 1) * T = 4 * (4 ^ k * T) by rw [Nat.pow_succ, Nat.mul_comm (4 ^ k) 4, Nat.mul_assoc], show 4 ^ (k + 1) * D = 4 * (4 ^ k * D) by rw [Nat.pow_succ, Nat.mul_comm (4 ^ k) 4, Nat.mul_assoc]]
    rw [Nat.min_eq_left (show k ≤ b by omega)] at h f1 f2
    exact okT_early hP hy12 hy1 ha hb (by omega) (Nat.le_trans f1.2 hC) (by omega) h
theorem row_inv (hP : 200 ≤ 2 ^ w) (hy12 : y2 = y1 + 1) (hy1 : 2 * y1 ≤ 2 ^ w) (ha : 1 ≤ a) (hb : b ≤ 20) (hT : 100 ≤ T) (hC : 4 ^ b * T ≤ C * 2 ^ w) (hD : 14 * C + 62 ≤ D) :
    ∀ (f k t1 t2 a1 a2 : Nat) {A B K : Nat}, rowGo w y1 y2 a b f k t1 t2 a1 a2 = some (A, B, K) → okK w b T D k t1 t2 a1 a2 → K < k + f ∧ A ≤ B ∧ B ≤ A + (K + 1) * (4 ^ b * D) + 64 ∧ B ≤ (K + 1) * (4 ^ b * T) + 64 := by
  intro f
  induction f with
  | zero => intro k t1 t2 a1 a2 A B K h; simp only [rowGo] at h; cases h
  | succ f ih =>
    intro k t1 t2 a1 a2 A B K h ho
    rw [rowGo] at h
    by_cases hs : b ≤ k ∧ t2 < 8
    · rw [if_pos hs] at h
      simp only [Option.some.injEq, Prod.mk.injEq] at h
      obtain ⟨rfl, rfl, rfl⟩ := h
      obtain ⟨h1, h2, h3, h4, h5, h6⟩ := ho
      rw [Nat.min_eq_right hs.1] at h5 h6
      rw [Nat.add_mul, Nat.one_mul]
      rw [Nat.add_mul, Nat.one_mul] at h6
      rw [Nat.add_mul, Nat.one_mul]
      omega
    · rw [if_neg hs] at h
      have := ih _ _ _ _ _ h (okK_step hP hy12 hy1 ha hb hT hC hD ho)
      omega
/-- A term by the first one. -/
def rR (x : Rat) (a b : Nat) : Nat → Rat
  | 0 => 1
  | k + 1 => rR x a b k * x * ((a + b + 2 * k : Nat) : Rat) / ((a + 2 + 2 * k : Nat) : Rat)
/-- Terms' sum by the first one. -/
def sR (x : Rat) (a b : Nat) : Nat → Rat
  | 0 => 1
  | k + 1 => sR x a b k + rR x a b (k + 1)
theorem row_enc {x c : Rat} (hx : Enc w y1 y2 x) : ∀ (f k t1 t2 a1 a2 : Nat) {A B K : Nat}, rowGo w y1 y2 a b f k t1 t2 a1 a2 = some (A, B, K) → Enc w t1 t2 (c * rR x a b k) → Enc w a1 a2 (c * sR x a b k) →
    b ≤ K ∧ (A : Rat) ≤ c * sR x a b K * p2 w ∧ c * sR x a b K * p2 w + 64 ≤ (B : Rat) ∧ c * rR x a b K * p2 w ≤ 8 := by
  intro f
  induction f with
  | zero => intro k t1 t2 a1 a2 A B K h; simp only [rowGo] at h; cases h
  | succ f ih =>
    intro k t1 t2 a1 a2 A B K h ht ha
    rw [rowGo] at h
    by_cases hs : b ≤ k ∧ t2 < 8
    · rw [if_pos hs] at h
      simp only [Option.some.injEq, Prod.mk.injEq] at h
      obtain ⟨rfl, rfl, rfl⟩ := h
      refine ⟨hs.1, ha.1, ?_, ?_⟩
      · have h1 := ha.2
        have h2 : ((a2 + 64 : Nat) : Rat) = (a2 : Rat) + 64 := by exact_mod_cast rfl
        rw [h2]
        grind
      · have h1 := ht.2
        have h2 : (t2 : Rat) ≤ ((8 : Nat) : Rat) := (show ((t2 : Nat) : Rat) ≤ ((8 : Nat) : Rat) by exact_mod_cast (show t2 ≤ 8 by omega))
        exact Rat.le_trans h1 h2
    · rw [if_neg hs] at h
      have m := enc_times (n := a + b + 2 * k) (d := a + 2 + 2 * k) (by omega) (enc_mul ht hx)
      have e : c * rR x a b k * x * ((a + b + 2 * k : Nat) : Rat) / ((a + 2 + 2 * k : Nat) : Rat) = c * rR x a b (k + 1) := by
        show _ = c * (rR x a b k * x * ((a + b + 2 * k : Nat) : Rat) / ((a + 2 + 2 * k : Nat) : Rat))
        rw [Rat.div_def, Rat.div_def]
        grind
      rw [e] at m
      have s := enc_add ha m
      have e2 : c * sR x a b k + c * rR x a b (k + 1) = c * sR x a b (k + 1) := by
        show _ = c * (sR x a b k + rR x a b (k + 1))
        grind
      rw [e2] at s
      exact ih _ _ _ _ _ h m s
end
/-- A number so many times by itself. -/
def pwR (q : Rat) : Nat → Rat
  | 0 => 1
  | n + 1 => pwR q n * q
theorem pwR_two (q : Rat) (n : Nat) : pwR (q * q) n = pwR q (2 * n) := by
  induction n with
  | zero => rfl
  | succ n ih =>
    show pwR (q * q) n * (q * q) = pwR q (2 * n) * q * q
    rw [ih]; grind
/-- fix.Power's rounds. -/
def powGo (w : Nat) : Nat → Nat → Nat → Nat → Nat → Nat → Nat × Nat
  | 0, _, l1, l2, _, _ => (l1, l2)
  | f + 1, n, l1, l2, a1, a2 => if n = 0 then (l1, l2) else
    if n % 2 = 1 then powGo w f (n / 2) (l1 * a1 / 2 ^ w) (l2 * a2 / 2 ^ w + 1) (a1 * a1 / 2 ^ w) (a2 * a2 / 2 ^ w + 1)
    else powGo w f (n / 2) l1 l2 (a1 * a1 / 2 ^ w) (a2 * a2 / 2 ^ w + 1)
theorem powGo_zero (w f l1 l2 a1 a2 : Nat) : powGo w f 0 l1 l2 a1 a2 = (l1, l2) := by cases f <;> rfl
theorem powGo_enc {w : Nat} : ∀ (f n l1 l2 a1 a2 : Nat) {p q : Rat}, n < 2 ^ f → Enc w l1 l2 p → Enc w a1 a2 q → Enc w (powGo w f n l1 l2 a1 a2).1 (powGo w f n l1 l2 a1 a2).2 (p * pwR q n) := by
  intro f
  induction f with
  | zero =>
    intro n l1 l2 a1 a2 p q hn hl ha
    obtain rfl : n = 0 := by omega
    rw [powGo_zero]
    show Enc w l1 l2 (p * 1)
    rw [Rat.mul_one]; exact hl
  | succ f ih =>
    intro n l1 l2 a1 a2 p q hn hl ha
    rw [Nat.pow_succ] at hn
    rw [powGo]
    by_cases h0 : n = 0
    · subst h0
      rw [if_pos rfl]
      show Enc w l1 l2 (p * 1)
      rw [Rat.mul_one]; exact hl
    · rw [if_neg h0]
      by_cases h1 : n % 2 = 1
      · rw [if_pos h1]
        have := ih (n / 2) _ _ _ _ (by omega) (enc_mul hl ha) (enc_mul ha ha)
        rw [pwR_two] at this
        have e : pwR q n = pwR q (2 * (n / 2)) * q := by
          conv => lhs; rw [show n = 2 * (n / 2) + 1 by omega]
          rfl
        rw [e]
        have e2 : p * q * pwR q (2 * (n / 2)) = p * (pwR q (2 * (n / 2)) * q) := by grind
        rw [e2] at this
        exact this
      · rw [if_neg h1]
        have := ih (n / 2) _ _ _ _ (by omega) hl (enc_mul ha ha)
        rw [pwR_two, show 2 * (n / 2) = n by omega] at this
        exact this
/-- A number that is at most a little above 1, known up to a little. -/
def okS (P a b e : Nat) : Prop := a ≤ b ∧ b ≤ a + e ∧ b ≤ P + e
theorem okS_mul {P a b c d e g : Nat} (hP : 1000000 ≤ P) (he : e ≤ 1000) (hg : g ≤ 1000) (h : okS P a b e) (h2 : okS P c d g) : okS P (a * c / P) (b * d / P + 1) (2 * (e + g) + 2) := by
  obtain ⟨h1, h3, h4⟩ := h
  obtain ⟨k1, k3, k4⟩ := h2
  have hP0 : 0 < P := by omega
  have m1 := Nat.mul_le_mul h1 k1
  refine ⟨Nat.le_succ_of_le (Nat.div_le_div_right m1), ?_, ?_⟩
  · -- the gap
    have d1 := Nat.div_add_mod (a * c) P
    have d2 := Nat.mod_lt (a * c) hP0
    have e1 : b * d ≤ a * c + (e * d + b * g) := by
      have x1 : b * d ≤ (a + e) * d := Nat.mul_le_mul_right d h3
      have x2 : a * d ≤ a * (c + g) := Nat.mul_le_mul_left a k3
      have x3 : a * g ≤ b * g := Nat.mul_le_mul_right g h1
      rw [Nat.add_mul] at x1
      rw [Nat.mul_add] at x2
      omega
    have e2 : e * d ≤ e * (2 * P) := Nat.mul_le_mul_left e (by omega)
    have e3 : b * g ≤ 2 * P * g := Nat.mul_le_mul_right g (by omega)
    have e4 : b * d < (a * c / P + (2 * (e + g) + 2)) * P := by
      have y1 : (a * c / P + (2 * (e + g) + 2)) * P = P * (a * c / P) + (e * (2 * P) + 2 * P * g + 2 * P) := by
        rw [Nat.add_mul, Nat.mul_comm _ P]
        congr 1
        grind
      omega
    have := (Nat.div_lt_iff_lt_mul hP0).2 e4
    omega
  · have e1 : b * d ≤ (P + e) * (P + g) := Nat.mul_le_mul h4 k4
    have e2 : (P + e) * (P + g) = P * P + (e + g) * P + e * g := by grind
    have e3 : e * g ≤ 1000 * 1000 := Nat.mul_le_mul he hg
    have e4 : b * d < (P + (e + g) + 2) * P := by
      have : (P + (e + g) + 2) * P = P * P + (e + g) * P + 2 * P := by rw [Nat.add_mul, Nat.add_mul]
      omega
    have := (Nat.div_lt_iff_lt_mul hP0).2 e4
    omega
theorem okS_mono {P a b e g : Nat} (h : okS P a b e) (hg : e ≤ g) : okS P a b g := ⟨h.1, Nat.le_trans h.2.1 (by omega), Nat.le_trans h.2.2 (by omega)⟩
theorem powGo_ok {w : Nat} (hP : 1000000 ≤ 2 ^ w) : ∀ (f n l1 l2 a1 a2 E : Nat), (E + 1) * 4 ^ f ≤ 512 → okS (2 ^ w) l1 l2 E → okS (2 ^ w) a1 a2 E → okS (2 ^ w) (powGo w f n l1 l2 a1 a2).1 (powGo w f n l1 l2 a1 a2).2 511 := by
  intro f
  induction f with
  | zero =>
    intro n l1 l2 a1 a2 E hE hl ha
    rw [Nat.pow_zero] at hE
    exact okS_mono hl (by omega)
  | succ f ih =>
    intro n l1 l2 a1 a2 E hE hl ha
    have hp : 1 ≤ 4 ^ f := Nat.pow_pos (by omega)
    rw [Nat.pow_succ] at hE
    have hE2 : (4 * E + 2 + 1) * 4 ^ f ≤ 512 := Nat.le_trans (Nat.mul_le_mul_right _ (show 4 * E + 2 + 1 ≤ (E + 1) * 4 by omega)) (by rw [Nat.mul_assoc, Nat.mul_comm 4]; exact hE)
    have hE1 : E ≤ 1000 := by
      have := Nat.le_mul_of_pos_right (E + 1) (show 0 < 4 ^ f * 4 by omega)
      omega
    have sq := okS_mul hP hE1 hE1 ha ha
    have ml := okS_mul hP hE1 hE1 hl ha
    rw [show 2 * (E + E) + 2 = 4 * E + 2 by omega] at sq ml
    rw [powGo]
    by_cases h0 : n = 0
    · rw [if_pos h0]
      exact okS_mono hl (by have := Nat.le_mul_of_pos_right (E + 1) (show 0 < 4 ^ f * 4 by omega); omega)
    · rw [if_neg h0]
      by_cases h1 : n % 2 = 1
      · rw [if_pos h1]
        exact ih _ _ _ _ _ _ hE2 ml sq
      · rw [if_neg h1]
        exact ih _ _ _ _ _ _ hE2 (okS_mono hl (by omega)) sq
end Go.Proofs.YthbjgdmcnonofaaGreat

/- fix: Mul, Unit, Of, in the evaluator. -/
namespace Go.Proofs.YthbjgdmcnonofaaGreat
set_option linter.unusedSimpArgs false
set_option linter.unusedVariables false
set_option maxRecDepth 8000
open Go.Ev
theorem fix_Mul {a b c d w : Nat} (h1 : (lim a).length ≤ 10000) (h2 : (lim b).length ≤ 10000) (h3 : (lim c).length ≤ 10000) (h4 : (lim d).length ≤ 10000) (hw : w ≤ 100000) (h0 : 0 < w) : Go.Ev.Fn CX 104 [spanV a b, spanV c d, .int .i64 (w : Int)] (spanV (a * c / 2 ^ w) (b * d / 2 ^ w + 1)) := by
  have m1 := nat_MulL (N := a) (D := c) (by omega) (by omega)
  have m2 := nat_MulL (N := b) (D := d) (by omega) (by omega)
  have l1 := lim_len_mul (a := a) (b := c)
  have l2 := lim_len_mul (a := b) (b := d)
  have s1 := fix_shr (a := a * c) (m := w) (by omega) hw h0
  have s2 := fix_shr (a := b * d) (m := w) (by omega) hw h0
  have l3 := lim_len_mono (Nat.div_le_self (b * d) (2 ^ w))
  have n1 := fix_Next (a := b * d / 2 ^ w) (by omega)
  generalize a * c / 2 ^ w = x at *
  generalize b * d / 2 ^ w = y at *
  generalize a * c = u at *
  generalize b * d = v at *
  have e0 : (0 : Int) - (w : Int) = -(w : Int) := by omega
  refine Go.Ev.Fn.intro (fn := Tryz.f104) (body := (Tryz.f104).body.get!) (by kernel_rfl) (by kernel_rfl) (by kernel_rfl) (fun _ => rfl) (Nat.le_of_ble_eq_true (by kernel_rfl)) ?_; unfold Tryz.f104; simp only [Option.get!_some]
  repeat (first | (simp only [go_sem, Nat.reduceEqDiff, Nat.reduceAdd, Nat.reduceSub, Nat.reduceMul, Nat.reduceLeDiff, Nat.reduceLT, reduceIte, reduceCtorEq, Nat.succ_ne_zero, elemsC, Int.reduceToNat, Nat.reducePow, e0]) | (simp (disch := (first | omega | (simp only [AL, List.length_map]; omega))) only [AR, AL, ifT, ifF, take_all, List.length_cons, List.length_nil, Int.reduceToNat, Int.reducePow, Nat.reducePow, e0]) | (refine wk_intro (by kernel_rfl) ?_) | (refine vp_draw (id := 1) (l := [8, 10, 11, 16, 18, 19, 22]) (by kernel_rfl) ?_) | (refine vf_of (by first | exact m1 | exact s1 | exact m2 | exact s2 | exact n1) ?_))
end Go.Proofs.YthbjgdmcnonofaaGreat

/- nat.Bits; fix: Of, Small, Floor, Certain (one round); arcs.held, in the evaluator. -/
namespace Go.Proofs.YthbjgdmcnonofaaGreat
set_option linter.unusedSimpArgs false
set_option linter.unusedVariables false
set_option maxRecDepth 8000
open Go.Ev
theorem fix_Of {n d w : Nat} (h1 : (lim n).length ≤ 10000) (h2 : (lim d).length ≤ 10000) (hd : d ≠ 0) (hw : w ≤ 100000) : Go.Ev.Fn CX 165 [natV (lim n), natV (lim d), .int .i64 (w : Int)] (spanV (n * 2 ^ w / d) (n * 2 ^ w / d + 1)) := by
  have s1 := fix_shl (a := n) (m := w) (by omega) hw
  have l1 := lim_len_shl (a := n) (n := w)
  have o1 := fix_Over' (N := n * 2 ^ w) (D := d) hd (by omega) (by omega)
  have l3 := lim_len_mono (Nat.div_le_self (n * 2 ^ w) d)
  have n1 := fix_Next (a := n * 2 ^ w / d) (by omega)
  generalize n * 2 ^ w / d = x at *
  generalize n * 2 ^ w = y at *
  refine Go.Ev.Fn.intro (fn := Tryz.f165) (body := (Tryz.f165).body.get!) (by kernel_rfl) (by kernel_rfl) (by kernel_rfl) (fun _ => rfl) (Nat.le_of_ble_eq_true (by kernel_rfl)) ?_; unfold Tryz.f165; simp only [Option.get!_some]
  repeat (first | (simp only [go_sem, Nat.reduceEqDiff, Nat.reduceAdd, Nat.reduceSub, Nat.reduceMul, Nat.reduceLeDiff, Nat.reduceLT, reduceIte, reduceCtorEq, Nat.succ_ne_zero, elemsC, Int.reduceToNat, Nat.reducePow]) | (simp (disch := (first | omega | (simp only [AL, List.length_map]; omega))) only [AR, AL, ifT, ifF, take_all, List.length_cons, List.length_nil, Int.reduceToNat, Int.reducePow, Nat.reducePow]) | (refine wk_intro (by kernel_rfl) ?_) | (refine vf_of (by first | exact s1 | exact o1 | exact n1) ?_))
theorem fix_Floor {a b w p : Nat} (h1 : (lim a).length ≤ 10000) (h2 : (lim b).length ≤ 10000) (hp : p < w) (hw : w ≤ 100000) : Go.Ev.Fn CX 140 [spanV a b, .int .i64 (w : Int), .int .i64 (p : Int)] (.tup [natV (lim (a / 2 ^ (w - p))), .bool (decide (a / 2 ^ (w - p) = (b - 1) / 2 ^ (w - p)))]) := by
  have e0 : (p : Int) - (w : Int) = -((w - p : Nat) : Int) := by omega
  have l1 := lim_len1
  have s1 := fix_shr (a := a) (m := w - p) (by omega) (by omega) (by omega)
  have o := fix_One
  have m1 := fix_Less' (N := b) (D := 1) (by omega) (by omega)
  have l2 := lim_len_mono (Nat.sub_le b 1)
  have s2 := fix_shr (a := b - 1) (m := w - p) (by omega) (by omega) (by omega)
  have l3 := lim_len_mono (Nat.div_le_self a (2 ^ (w - p)))
  have l4 := lim_len_mono (Nat.div_le_self (b - 1) (2 ^ (w - p)))
  have c := nat_CmpL (N := a / 2 ^ (w - p)) (D := (b - 1) / 2 ^ (w - p)) (by omega) (by omega)
  generalize a / 2 ^ (w - p) = x at *
  generalize (b - 1) / 2 ^ (w - p) = y at *
  generalize b - 1 = b' at *
  have e1 : (cmpN x y == 0) = decide (x = y) := by
    rw [show (cmpN x y == 0) = decide (cmpN x y = 0) from by by_cases h : cmpN x y = 0 <;> simp [h]]
    exact decide_eq_decide.2 (by unfold cmpN; split <;> (try split) <;> omega)
  generalize cmpN x y = z at *
  generalize decide (x = y) = q at *
  generalize hk : w - p = k at *
  refine Go.Ev.Fn.intro (fn := Tryz.f140) (body := (Tryz.f140).body.get!) (by kernel_rfl) (by kernel_rfl) (by kernel_rfl) (fun _ => rfl) (Nat.le_of_ble_eq_true (by kernel_rfl)) ?_; unfold Tryz.f140; simp only [Option.get!_some]
  repeat (first | (simp only [go_sem, Nat.reduceEqDiff, Nat.reduceAdd, Nat.reduceSub, Nat.reduceMul, Nat.reduceLeDiff, Nat.reduceLT, reduceIte, reduceCtorEq, Nat.succ_ne_zero, elemsC, Int.reduceToNat, Nat.reducePow, e0, e1]) | (simp (disch := (first | omega | (simp only [AL, List.length_map]; omega))) only [AR, AL, ifT, ifF, take_all, List.length_cons, List.length_nil, Int.reduceToNat, Int.reducePow, Nat.reducePow, e0, e1]) | (refine wk_intro (by kernel_rfl) ?_) | (refine vp_draw (id := 2) (l := [18, 19, 20, 8, 24]) (by kernel_rfl) ?_) | (refine vf_of (by first | exact s1 | exact o | exact m1 | exact s2 | exact c) ?_))
end Go.Proofs.YthbjgdmcnonofaaGreat

/- fix: Rat, Unit, Told, Power, in the evaluator. -/
namespace Go.Proofs.YthbjgdmcnonofaaGreat
set_option linter.unusedSimpArgs false
set_option linter.unusedVariables false
set_option maxRecDepth 8000
open Go.Ev
theorem fix_Rat {q : Rat} {w L : Nat} (hz : szR q L) (hL : L ≤ 1000) (hw : w ≤ 10000) : Go.Ev.Fn CX 100 [rv q, .int .i64 (w : Int)] (spanV (q.num.natAbs * 2 ^ w / q.den) (q.num.natAbs * 2 ^ w / q.den + 1)) := by
  obtain ⟨z1, z2⟩ := hz
  have o := fix_Of (n := q.num.natAbs) (d := q.den) (w := w) (by omega) (by omega) q.den_nz (by omega)
  generalize q.num.natAbs * 2 ^ w / q.den = x at *
  refine Go.Ev.Fn.intro (fn := Tryz.f100) (body := (Tryz.f100).body.get!) (by kernel_rfl) (by kernel_rfl) (by kernel_rfl) (fun _ => rfl) (Nat.le_of_ble_eq_true (by kernel_rfl)) ?_; unfold Tryz.f100; simp only [Option.get!_some]
  repeat (first | (simp only [go_sem, Nat.reduceEqDiff, Nat.reduceAdd, Nat.reduceSub, Nat.reduceMul, Nat.reduceLeDiff, Nat.reduceLT, reduceIte, reduceCtorEq, Nat.succ_ne_zero, elemsC, Int.reduceToNat, Nat.reducePow]) | (simp (disch := (first | omega | (simp only [AL, List.length_map]; omega))) only [AR, AL, ifT, ifF, take_all, List.length_cons, List.length_nil, Int.reduceToNat, Int.reducePow, Nat.reducePow]) | (refine wk_intro (by kernel_rfl) ?_) | (refine vf_of (by first | exact o) ?_))
theorem fix_Unit {w : Nat} (hw : w ≤ 10000) : Go.Ev.Fn CX 224 [.int .i64 (w : Int)] (spanV (2 ^ w) (2 ^ w + 1)) := by
  have o := fix_One
  have l1 := lim_len1
  have s := fix_shl (a := 1) (m := w) (by omega) (by omega)
  have l := lim_len_shl (a := 1) (n := w)
  rw [Nat.one_mul] at s l
  have n1 := fix_Next (a := 2 ^ w) (by omega)
  generalize 2 ^ w = P at *
  refine Go.Ev.Fn.intro (fn := Tryz.f224) (body := (Tryz.f224).body.get!) (by kernel_rfl) (by kernel_rfl) (by kernel_rfl) (fun _ => rfl) (Nat.le_of_ble_eq_true (by kernel_rfl)) ?_; unfold Tryz.f224; simp only [Option.get!_some]
  repeat (first | (simp only [go_sem, Nat.reduceEqDiff, Nat.reduceAdd, Nat.reduceSub, Nat.reduceMul, Nat.reduceLeDiff, Nat.reduceLT, reduceIte, reduceCtorEq, Nat.succ_ne_zero, elemsC, Int.reduceToNat, Nat.reducePow]) | (simp (disch := (first | omega | (simp only [AL, List.length_map]; omega))) only [AR, AL, ifT, ifF, take_all, List.length_cons, List.length_nil, Int.reduceToNat, Int.reducePow, Nat.reducePow]) | (refine wk_intro (by kernel_rfl) ?_) | (refine vf_of (by first | exact o | exact s | exact n1) ?_))
theorem fix_Told {a b w p : Nat} (ha : (lim a).length ≤ 10000) (hb : (lim b).length ≤ 10000) (hp : p < w) (hw : w ≤ 10000) : Go.Ev.Fn CX 51 [spanV a b, .int .i64 (w : Int), .int .i64 (p : Int)] (ballR (mkRat ((a / 2 ^ (w - p) : Nat) : Int) (2 ^ p)) (mkRat ((b / 2 ^ (w - p) + 1 : Nat) : Int) (2 ^ p))) := by
  have o := fix_One
  have l1 := lim_len1
  have sh := fix_shl (a := 1) (m := p) (by omega) (by omega)
  have lp := lim_len_shl (a := 1) (n := p)
  rw [Nat.one_mul] at sh lp
  have e0 : (p : Int) - (w : Int) = -((w - p : Nat) : Int) := by omega
  have s1 := fix_shr (a := a) (m := w - p) (by omega) (by omega) (by omega)
  have s2 := fix_shr (a := b) (m := w - p) (by omega) (by omega) (by omega)
  have l3 := lim_len_mono (Nat.div_le_self a (2 ^ (w - p)))
  have l4 := lim_len_mono (Nat.div_le_self b (2 ^ (w - p)))
  have n1 := fix_Next (a := b / 2 ^ (w - p)) (by omega)
  have l5 := lim_len_add (a := b / 2 ^ (w - p)) (b := 1) (L := 10000) (by omega) (by omega)
  have r1 := rat_OfL (s := false) (n := a / 2 ^ (w - p)) (d := 2 ^ p) (by omega) (by omega)
  have r2 := rat_OfL (s := false) (n := b / 2 ^ (w - p) + 1) (d := 2 ^ p) (by omega) (by omega)
  rw [show sgn false (a / 2 ^ (w - p)) = ((a / 2 ^ (w - p) : Nat) : Int) from rfl] at r1
  rw [show sgn false (b / 2 ^ (w - p) + 1) = ((b / 2 ^ (w - p) + 1 : Nat) : Int) from rfl] at r2
  generalize mkRat ((a / 2 ^ (w - p) : Nat) : Int) (2 ^ p) = q1 at *
  generalize mkRat ((b / 2 ^ (w - p) + 1 : Nat) : Int) (2 ^ p) = q2 at *
  generalize b / 2 ^ (w - p) + 1 = y' at *
  generalize a / 2 ^ (w - p) = x at *
  generalize b / 2 ^ (w - p) = y at *
  generalize 2 ^ p = P at *
  generalize hk : w - p = k at *
  refine Go.Ev.Fn.intro (fn := Tryz.f51) (body := (Tryz.f51).body.get!) (by kernel_rfl) (by kernel_rfl) (by kernel_rfl) (fun _ => rfl) (Nat.le_of_ble_eq_true (by kernel_rfl)) ?_; unfold Tryz.f51; simp only [Option.get!_some]
  repeat (first | (simp only [go_sem, Nat.reduceEqDiff, Nat.reduceAdd, Nat.reduceSub, Nat.reduceMul, Nat.reduceLeDiff, Nat.reduceLT, reduceIte, reduceCtorEq, Nat.succ_ne_zero, elemsC, Int.reduceToNat, Nat.reducePow, e0]) | (simp (disch := (first | omega | (simp only [AL, List.length_map]; omega))) only [AR, AL, ifT, ifF, take_all, List.length_cons, List.length_nil, Int.reduceToNat, Int.reducePow, Nat.reducePow, e0]) | (refine wk_intro (by kernel_rfl) ?_) | (refine vp_draw (id := 2) (l := [12, 16, 7, 20, 24, 25, 7]) (by kernel_rfl) ?_) | (refine vf_of (by first | exact o | exact sh | exact s1 | exact r1 | exact s2 | exact n1 | exact r2) ?_))
set_option maxHeartbeats 1000000 in
theorem fix_Power {a1 a2 n w F : Nat} (hn : n < 2 ^ F) (hF : F ≤ 4) (h1 : (lim a1).length ≤ 50) (h2 : (lim a2).length ≤ 50) (hw : w ≤ 1000) (hw0 : 0 < w) :
    Go.Ev.Fn CX 203 [spanV a1 a2, .int .i64 (n : Int), .int .i64 (w : Int)] (spanV (powGo w F n (2 ^ w) (2 ^ w + 1) a1 a2).1 (powGo w F n (2 ^ w) (2 ^ w + 1) a1 a2).2) := by
  have un := fix_Unit (w := w) (by omega)
  have l1 := lim_len1
  have lp := lim_len_shl (a := 1) (n := w)
  rw [Nat.one_mul] at lp
  have lp2 := lim_len_add (a := 2 ^ w) (b := 1) (L := 40) (by omega) (by omega)
  obtain ⟨R, hR⟩ : ∃ R, R = powGo w F n (2 ^ w) (2 ^ w + 1) a1 a2 := ⟨_, rfl⟩
  rw [← hR]
  have hF16 : (2 : Nat) ^ F ≤ 16 := Nat.pow_le_pow_right (n := 2) (by omega) hF
  have hF4 : 100 * 2 ^ F ≤ 1600 := by omega
  refine Go.Ev.Fn.intro (fn := Tryz.f203) (body := (Tryz.f203).body.get!) (by kernel_rfl) (by kernel_rfl) (by kernel_rfl) (fun _ => rfl) (Nat.le_of_ble_eq_true (by kernel_rfl)) ?_; unfold Tryz.f203; simp only [Option.get!_some]
  repeat (first | (simp only [go_sem, Nat.reduceEqDiff, Nat.reduceAdd, Nat.reduceSub, Nat.reduceMul, Nat.reduceLeDiff, Nat.reduceLT, reduceIte, reduceCtorEq, Nat.succ_ne_zero, elemsC, Int.reduceToNat, Nat.reducePow]) | (simp (disch := (first | omega | (simp only [AL, List.length_map]; omega))) only [AR, AL, ifT, ifF, take_all, List.length_cons, List.length_nil, Int.reduceToNat, Int.reducePow, Nat.reducePow]) | (refine wk_intro (by kernel_rfl) ?_) | (refine vf_of (by first | exact un) ?_))
  refine vp_loop_inv (fun s => s.tmp 2 = .sv (.int .i64 (w : Int)) ∧ s.tmp 3 = .ptr 3 0 0 ∧ s.tmp 6 = .ptr 6 0 0 ∧ s.obj 6 0 = some [.sl 0 [], .sl 0 []] ∧ s.tmp 7 = .ptr 7 0 0 ∧
      ∃ f m c1 c2 d1 d2 e g : Nat, s.tmp 1 = .sv (.int .i64 (m : Int)) ∧ m < 2 ^ f ∧ f ≤ F ∧ s.obj 7 0 = some [natV (lim c1), natV (lim c2)] ∧ s.obj 3 0 = some [natV (lim d1), natV (lim d2)] ∧ powGo w f m c1 c2 d1 d2 = R ∧
        (lim c1).length ≤ e ∧ (lim c2).length ≤ e ∧ (lim d1).length ≤ g ∧ (lim d2).length ≤ g ∧ (g + 1) * 2 ^ f ≤ 1600 ∧ e + 1601 * f ≤ 7000 ∧ 1 ≤ e)
    (fun s => match s.tmp 1 with | .sv (.int _ i) => i.toNat | _ => 0) ⟨rfl, rfl, rfl, rfl, rfl, F, n, 2 ^ w, 2 ^ w + 1, a1, a2, 41, 50, rfl, hn, Nat.le_refl _, rfl, rfl, hR.symm, by omega, by omega, by omega, by omega, by omega, by omega, by omega⟩ ?_
  rintro s ⟨i2, i3, i6, o6, i7, f, m, c1, c2, d1, d2, e, g, i1, hm, hf, o7, o3, hp, x1, x2, x3, x4, x5, x6, x7⟩
  cases f with
  | zero =>
    obtain rfl : m = 0 := by omega
    rw [powGo_zero] at hp
    subst hp
    repeat (first | (simp only [go_sem, Nat.reduceEqDiff, Nat.reduceAdd, Nat.reduceSub, Nat.reduceMul, Nat.reduceLeDiff, Nat.reduceLT, reduceIte, reduceCtorEq, Nat.succ_ne_zero, elemsC, Int.reduceToNat, Nat.reducePow, i2, i3, i6, o6, i7, i1, o7, o3]) | (simp (disch := (first | omega | (simp only [AL, List.length_map]; omega))) only [AR, AL, ifT, ifF, take_all, List.length_cons, List.length_nil, Int.reduceToNat, Int.reducePow, Nat.reducePow, i2, i3, i6, o6, i7, i1, o7, o3]) | (refine wk_intro (by kernel_rfl) ?_))
  | succ f =>
    rw [powGo] at hp
    by_cases h0 : m = 0
    · subst h0
      rw [if_pos rfl] at hp
      subst hp
      repeat (first | (simp only [go_sem, Nat.reduceEqDiff, Nat.reduceAdd, Nat.reduceSub, Nat.reduceMul, Nat.reduceLeDiff, Nat.reduceLT, reduceIte, reduceCtorEq, Nat.succ_ne_zero, elemsC, Int.reduceToNat, Nat.reducePow, i2, i3, i6, o6, i7, i1, o7, o3]) | (simp (disch := (first | omega | (simp only [AL, List.length_map]; omega))) only [AR, AL, ifT, ifF, take_all, List.length_cons, List.length_nil, Int.reduceToNat, Int.reducePow, Nat.reducePow, i2, i3, i6, o6, i7, i1, o7, o3]) | (refine wk_intro (by kernel_rfl) ?_))
    · rw [if_neg h0] at hp
      rw [Nat.pow_succ] at hm x5
      have hp1 : 1 ≤ 2 ^ f := Nat.pow_pos (by omega)
      have hg : g + 1 ≤ 1600 := by
        have := Nat.le_mul_of_pos_right (g + 1) (show 0 < 2 ^ f * 2 by omega)
        omega
      have hm16 : m < 16 := by
        have : 2 ^ f * 2 ≤ 16 := by rw [← Nat.pow_succ]; exact Nat.le_trans (Nat.pow_le_pow_right (n := 2) (by omega) hf) hF16
        omega
      have an := and_one64 (a := m) (by omega)
      have y1 := lim_len_mul (a := c1) (b := d1)
      have y2 := lim_len_mul (a := c2) (b := d2)
      have y3 := lim_len_mul (a := d1) (b := d1)
      have y4 := lim_len_mul (a := d2) (b := d2)
      have w1 := lim_len_mono (Nat.div_le_self (c1 * d1) (2 ^ w))
      have w2 := lim_len_add (a := c2 * d2 / 2 ^ w) (b := 1) (L := e + g) (Nat.le_trans (lim_len_mono (Nat.div_le_self (c2 * d2) (2 ^ w))) (by omega)) (by omega)
      have w3 := lim_len_mono (Nat.div_le_self (d1 * d1) (2 ^ w))
      have hge : (g + g + 1 + 1) * 2 ^ f ≤ 1600 := by
        have : (g + g + 1 + 1) * 2 ^ f = (g + 1) * (2 ^ f * 2) := by
          rw [Nat.mul_comm (2 ^ f) 2, ← Nat.mul_assoc]; congr 1; omega
        omega
      have mm := fix_Mul (a := c1) (b := c2) (c := d1) (d := d2) (w := w) (by omega) (by omega) (by omega) (by omega) (by omega) hw0
      have sq := fix_Mul (a := d1) (b := d2) (c := d1) (d := d2) (w := w) (by omega) (by omega) (by omega) (by omega) (by omega) hw0
      have w4 : (lim (d2 * d2 / 2 ^ w + 1)).length ≤ g + g + 1 := by
        rcases Nat.eq_zero_or_pos g with hg0 | hg0
        · have : d2 = 0 := by
            have : (lim d2).length = 0 := by omega
            rw [List.length_eq_zero_iff] at this
            exact lim_eq_nil.1 this
          subst this
          rw [Nat.zero_mul, Nat.zero_div]
          show (lim 1).length ≤ _
          omega
        · exact lim_len_add (a := d2 * d2 / 2 ^ w) (b := 1) (L := g + g) (Nat.le_trans (lim_len_mono (Nat.div_le_self (d2 * d2) (2 ^ w))) (by omega)) (by omega)
      generalize c1 * d1 / 2 ^ w = u1 at *
      generalize c2 * d2 / 2 ^ w + 1 = u2 at *
      generalize d1 * d1 / 2 ^ w = v1 at *
      generalize d2 * d2 / 2 ^ w + 1 = v2 at *
      by_cases hod : m % 2 = 1
      · rw [if_pos hod] at hp
        rw [hod] at an
        repeat (first | (simp only [go_sem, Nat.reduceEqDiff, Nat.reduceAdd, Nat.reduceSub, Nat.reduceMul, Nat.reduceLeDiff, Nat.reduceLT, reduceIte, reduceCtorEq, Nat.succ_ne_zero, elemsC, Int.reduceToNat, Nat.reducePow, i2, i3, i6, o6, i7, i1, o7, o3, an]) | (simp (disch := (first | omega | (simp only [AL, List.length_map]; omega))) only [AR, AL, ifT, ifF, take_all, List.length_cons, List.length_nil, Int.reduceToNat, Int.reducePow, Nat.reducePow, i2, i3, i6, o6, i7, i1, o7, o3, an]) | (refine wk_intro (by kernel_rfl) ?_) | (refine vf_of (by first | exact mm | exact sq) ?_))
        exact ⟨⟨f, m / 2, u1, u2, v1, v2, e + g + 1, g + g + 1, rfl, by omega, by omega, rfl, rfl, hp, by omega, by omega, by omega, by omega, hge, by omega, by omega⟩, by omega⟩
      · rw [if_neg hod] at hp
        rw [show m % 2 = 0 by omega] at an
        repeat (first | (simp only [go_sem, Nat.reduceEqDiff, Nat.reduceAdd, Nat.reduceSub, Nat.reduceMul, Nat.reduceLeDiff, Nat.reduceLT, reduceIte, reduceCtorEq, Nat.succ_ne_zero, elemsC, Int.reduceToNat, Nat.reducePow, i2, i3, i6, o6, i7, i1, o7, o3, an]) | (simp (disch := (first | omega | (simp only [AL, List.length_map]; omega))) only [AR, AL, ifT, ifF, take_all, List.length_cons, List.length_nil, Int.reduceToNat, Int.reducePow, Nat.reducePow, i2, i3, i6, o6, i7, i1, o7, o3, an]) | (refine wk_intro (by kernel_rfl) ?_) | (refine vf_of (by first | exact sq) ?_))
        exact ⟨⟨f, m / 2, c1, c2, v1, v2, e, g + g + 1, rfl, by omega, by omega, rfl, rfl, hp, by omega, by omega, by omega, by omega, hge, by omega, by omega⟩, by omega⟩
end Go.Proofs.YthbjgdmcnonofaaGreat

/- Gamma at halves, ways to choose: plain mathematics, no program. -/
namespace Go.Ev
/-- The product of so many numbers, from one on, each so much more. -/
def prodN (a by' : Nat) : Nat → Nat
  | 0 => 1
  | c + 1 => prodN a by' c * (a + c * by')
theorem prodN_pos {a b : Nat} (ha : 0 < a) : ∀ c, 0 < prodN a b c := by
  intro c
  induction c with
  | zero => exact Nat.one_pos
  | succ c ih => exact Nat.mul_pos ih (by omega)
theorem prodN_len {a b c : Nat} (h : ∀ i, i < c → a + i * b < 4294967296) : (lim (prodN a b c)).length ≤ c + 1 := by
  induction c with
  | zero => exact lim_len_one (show 1 < 4294967296 by decide)
  | succ c ih =>
    have h1 := ih fun i hi => h i (by omega)
    have h2 := lim_len_mul (a := prodN a b c) (b := a + c * b)
    have h3 := lim_len_one (h c (by omega))
    show (lim (prodN a b c * (a + c * b))).length ≤ _
    omega
/-- From the front. -/
theorem prodN_front (a b : Nat) : ∀ c, prodN a b (c + 1) = a * prodN (a + b) b c := by
  intro c
  induction c with
  | zero => simp [prodN]
  | succ c ih =>
    show prodN a b (c + 1) * (a + (c + 1) * b) = a * (prodN (a + b) b c * (a + b + c * b))
    rw [ih, Nat.mul_assoc, Nat.add_mul c 1 b, Nat.one_mul, Nat.add_comm (c * b) b, ← Nat.add_assoc]
/-- Gamma of n by 2, but for the root of pi. -/
def gam2 (n : Nat) : Rat := if n % 2 = 0 then (prodN 2 1 (n / 2 - 2) : Nat) else mkRat (prodN 3 2 ((n - 3) / 2) : Nat) (2 ^ (n / 2))
theorem gam2_step {n : Nat} (hn : 1 ≤ n) : gam2 (n + 2) = gam2 n * mkRat n 2 := by
  unfold gam2
  have e1 : (n + 2) % 2 = n % 2 := by omega
  rw [e1]
  split
  · rename_i h
    obtain ⟨m, rfl⟩ : ∃ m, n = 2 * (m + 1) := ⟨n / 2 - 1, by omega⟩
    have e2 : ((prodN 2 1 ((2 * (m + 1) + 2) / 2 - 2) : Nat)) = prodN 2 1 (2 * (m + 1) / 2 - 2) * (m + 1) := by
      rcases Nat.eq_zero_or_pos m with rfl | h0
      · rfl
      · obtain ⟨k, rfl⟩ : ∃ k, m = k + 1 := ⟨m - 1, by omega⟩
        rw [show (2 * (k + 1 + 1) + 2) / 2 - 2 = k + 1 by omega, show 2 * (k + 1 + 1) / 2 - 2 = k by omega]
        show prodN 2 1 k * (2 + k * 1) = _
        rw [Nat.mul_one, Nat.add_comm 2 k]
    have e3 : mkRat ((2 * (m + 1) : Nat) : Int) 2 = ((m + 1 : Nat) : Rat) := by
      rw [Rat.mkRat_eq_div]
      push_cast
      grind
    rw [e2, e3, Rat.natCast_mul]
  · rename_i h
    obtain ⟨m, rfl⟩ : ∃ m, n = 2 * m + 1 := ⟨n / 2, by omega⟩
    rw [Rat.mkRat_mul_mkRat]
    have e2 : prodN 3 2 ((2 * m + 1 + 2 - 3) / 2) = prodN 3 2 ((2 * m + 1 - 3) / 2) * (2 * m + 1) := by
      rcases Nat.eq_zero_or_pos m with rfl | h0
      · rfl
      · obtain ⟨k, rfl⟩ : ∃ k, m = k + 1 := ⟨m - 1, by omega⟩
        rw [show (2 * (k + 1) + 1 + 2 - 3) / 2 = k + 1 by omega, show (2 * (k + 1) + 1 - 3) / 2 = k by omega]
        show prodN 3 2 k * (3 + k * 2) = _
        congr 1
        omega
    rw [e2, Int.natCast_mul, show (2 * m + 1 + 2) / 2 = (2 * m + 1) / 2 + 1 by omega, Nat.pow_succ]
/-- Ways to choose so many out of so many others and these. -/
def cc : Nat → Nat → Nat
  | 0, _ => 1
  | _ + 1, 0 => 1
  | m + 1, k + 1 => cc m (k + 1) + cc (m + 1) k
theorem cc_zero (m : Nat) : cc m 0 = 1 := by cases m <;> simp [cc]
theorem cc_succ (m k : Nat) : cc (m + 1) (k + 1) = cc m (k + 1) + cc (m + 1) k := by rw [cc]
theorem cc_symm : ∀ m k, cc m k = cc k m := by
  intro m
  induction m with
  | zero => intro k; rw [cc_zero]; simp [cc]
  | succ m ih =>
    intro k
    induction k with
    | zero => rw [cc_zero]; simp [cc]
    | succ k ihk =>
      rw [cc_succ, cc_succ, ih (k + 1), ihk, Nat.add_comm]
def facN (k : Nat) : Nat := prodN 1 1 k
theorem facN_succ (k : Nat) : facN (k + 1) = facN k * (k + 1) := by
  show prodN 1 1 k * (1 + k * 1) = _
  rw [Nat.mul_one, Nat.add_comm 1 k]
  rfl
theorem facN_pos (k : Nat) : 0 < facN k := prodN_pos (by decide) k
theorem facN_two (k : Nat) : prodN 2 1 (k - 1) = facN k := by
  cases k with
  | zero => rfl
  | succ k =>
    rw [Nat.add_sub_cancel]
    show _ = prodN 1 1 (k + 1)
    rw [prodN_front 1 1 k, Nat.one_mul]
theorem prod_cc : ∀ m k, prodN (m + 1) 1 k = cc m k * facN k := by
  intro m
  induction m with
  | zero => intro k; simp [cc, facN]
  | succ m ih =>
    intro k
    induction k with
    | zero => rw [cc_zero]; rfl
    | succ k ihk =>
      have h1 := ih (k + 1)
      have h2 := prodN_front (m + 1) 1 k
      rw [cc_succ, Nat.add_mul, ← h1, h2, facN_succ, ← Nat.mul_assoc, ← ihk]
      show prodN (m + 1 + 1) 1 k * (m + 1 + 1 + k * 1) = _
      rw [Nat.mul_comm (m + 1), ← Nat.mul_add]
      congr 1
      omega
theorem cc_step (m k : Nat) : cc m (k + 1) * (k + 1) = cc m k * (m + (k + 1)) := by
  have h1 := prod_cc m (k + 1)
  have h2 := prod_cc m k
  have h3 : prodN (m + 1) 1 (k + 1) = prodN (m + 1) 1 k * (m + 1 + k * 1) := rfl
  rw [h3, h2, facN_succ] at h1
  have h4 := facN_pos k
  refine Nat.eq_of_mul_eq_mul_right h4 ?_
  rw [Nat.mul_assoc, Nat.mul_comm (k + 1), ← h1, Nat.mul_right_comm]
  congr 1
  congr 1
  omega
theorem cc_pos : ∀ m k, 0 < cc m k := by
  intro m
  induction m with
  | zero => intro k; simp [cc]
  | succ m ih =>
    intro k
    induction k with
    | zero => simp [cc]
    | succ k ihk =>
      rw [cc_succ]
      omega
theorem cc_le {m k : Nat} : cc m k ≤ prodN (m + 1) 1 k := by
  rw [prod_cc]
  exact Nat.le_mul_of_pos_right _ (facN_pos k)
/-- How many ways there are to choose k of n; none, where it makes no sense. -/
def chR (n k : Int) : Nat := if 0 ≤ n ∧ n ≤ 512 ∧ 0 ≤ k ∧ k ≤ n then cc (n - k).toNat k.toNat else 0
theorem mk_whole (s : Bool) (a b : Nat) (hb : 0 < b) : mkRat (sgn s (a * b)) b = mkRat (sgn s a) 1 := by
  have e : sgn s (a * b) = sgn s a * (b : Int) := by
    unfold sgn
    split
    · rw [Int.natCast_mul, Int.neg_mul]
    · rw [Int.natCast_mul]
  rw [e]
  have := Rat.mkRat_mul_right (n := sgn s a) (d := 1) (a := b) (by omega)
  rw [Nat.one_mul] at this
  exact this
theorem gam2_pos {n : Nat} : gam2 n ≠ 0 := by
  unfold gam2
  split
  · have := prodN_pos (a := 2) (b := 1) (by decide) (n / 2 - 2)
    intro h
    have h2 : prodN 2 1 (n / 2 - 2) = 0 := by exact_mod_cast h
    omega
  · have := prodN_pos (a := 3) (b := 2) (by decide) ((n - 3) / 2)
    intro h
    rw [Rat.mkRat_eq_zero (Nat.ne_of_gt (Nat.pow_pos (by decide)))] at h
    omega
/-- Beta of halves, but for how often pi. -/
def beta2 (a b : Nat) : Rat := gam2 a * gam2 b / gam2 (a + b)
theorem beta2_symm (a b : Nat) : beta2 a b = beta2 b a := by unfold beta2; rw [Rat.mul_comm, Nat.add_comm]
theorem beta2_mul (a b : Nat) : beta2 a b * gam2 (a + b) = gam2 a * gam2 b := by
  unfold beta2
  exact Rat.div_mul_cancel gam2_pos
end Go.Ev

/- gam.run, whole, half, Half; vernierlaw9.GamSteps, in the evaluator. -/
namespace Go.Proofs.YthbjgdmcnonofaaGreat
set_option linter.unusedSimpArgs false
set_option linter.unusedVariables false
set_option maxRecDepth 8000
open Go.Ev
theorem gam_run (a b c : Nat) (to : Int) (ha : 1 ≤ a) (hb : 1 ≤ b) (h1 : c = 0 ∨ ((a + (c - 1) * b : Nat) : Int) ≤ to) (h2 : to < ((a + c * b : Nat) : Int)) (hto : to ≤ 1073741824) (hto0 : -9223372036854775808 ≤ to) (hc : c ≤ 1048576) (hab : a ≤ 1073741824) (hbb : b ≤ 1073741824) :
    Go.Ev.Fn CX 151 [.int .i64 (a : Int), .int .i64 (b : Int), .int .i64 to] (natV (lim (prodN a b c))) := by
  have hle : ∀ i, i < c → ((a + i * b : Nat) : Int) ≤ to := by
    intro i hi
    rcases h1 with h | h
    · omega
    · have : i * b ≤ (c - 1) * b := Nat.mul_le_mul_right _ (by omega)
      omega
  have hlen : ∀ i, i ≤ c → (lim (prodN a b i)).length ≤ i + 1 := fun i hi => prodN_len fun j hj => by have := hle j (by omega); omega
  have o1 := nat_Of 1 (by omega)
  refine Go.Ev.Fn.intro (fn := Tryz.f151) (body := (Tryz.f151).body.get!) (by kernel_rfl) (by kernel_rfl) (by kernel_rfl) (fun _ => rfl) (Nat.le_of_ble_eq_true (by kernel_rfl)) ?_; unfold Tryz.f151; simp only [Option.get!_some]
  repeat (first | (simp only [go_sem, Nat.reduceEqDiff, Nat.reduceAdd, Nat.reduceSub, Nat.reduceMul, Nat.reduceLeDiff, Nat.reduceLT, reduceIte, reduceCtorEq, Nat.succ_ne_zero, elemsC, Int.reduceToNat, Nat.reducePow]) | (simp (disch := (first | omega | (simp only [AL, List.length_map]; omega))) only [AR, AL, ifT, ifF, take_all, List.length_cons, List.length_nil, Int.reduceToNat, Int.reducePow, Nat.reducePow]) | (refine wk_intro (by kernel_rfl) ?_) | (refine vf_of (by first | exact o1) ?_))
  refine vp_loop_inv (fun s => s.tmp 1 = .sv (.int .i64 (b : Int)) ∧ s.tmp 2 = .sv (.int .i64 to) ∧ ∃ i : Nat, s.tmp 8 = .sv (.int .i64 ((a + i * b : Nat) : Int)) ∧ s.tmp 7 = .sv (natV (lim (prodN a b i))) ∧ i ≤ c)
    (fun s => match s.tmp 8 with | .sv (.int _ n) => (to + 1 - n).toNat | _ => 0) ⟨rfl, rfl, 0, by rw [Nat.zero_mul, Nat.add_zero]; rfl, rfl, by omega⟩ ?_
  rintro s ⟨i1, i2, i, i8, i7, hi⟩
  by_cases hend : i = c
  · subst hend
    have hlt : ¬ ((a + i * b : Nat) : Int) ≤ to := by omega
    repeat (first | (simp only [go_sem, Nat.reduceEqDiff, Nat.reduceAdd, Nat.reduceSub, Nat.reduceMul, Nat.reduceLeDiff, Nat.reduceLT, reduceIte, reduceCtorEq, Nat.succ_ne_zero, elemsC, Int.reduceToNat, Nat.reducePow, i1, i2, i8, i7]) | (simp (disch := (first | omega | (simp only [AL, List.length_map]; omega))) only [AR, AL, ifT, ifF, take_all, List.length_cons, List.length_nil, Int.reduceToNat, Int.reducePow, Nat.reducePow, i1, i2, i8, i7]) | (refine wk_intro (by kernel_rfl) ?_))
  · have h3 := hle i (by omega)
    have hl := hlen i hi
    have oN := nat_Of (a + i * b) (by omega)
    have hl2 := lim_len_one (a := a + i * b) (by omega)
    have hn : a + (i + 1) * b = a + i * b + b := by rw [Nat.add_mul, Nat.one_mul, Nat.add_assoc]
    have hnew : prodN a b (i + 1) = prodN a b i * (a + i * b) := rfl
    generalize hv : a + i * b = v at *
    repeat (first | (simp only [go_sem, Nat.reduceEqDiff, Nat.reduceAdd, Nat.reduceSub, Nat.reduceMul, Nat.reduceLeDiff, Nat.reduceLT, reduceIte, reduceCtorEq, Nat.succ_ne_zero, elemsC, Int.reduceToNat, Nat.reducePow, i1, i2, i8, i7]) | (simp (disch := (first | omega | (simp only [AL, List.length_map]; omega))) only [AR, AL, ifT, ifF, take_all, List.length_cons, List.length_nil, Int.reduceToNat, Int.reducePow, Nat.reducePow, i1, i2, i8, i7]) | (refine wk_intro (by kernel_rfl) ?_) | (refine vf_of (by first | exact oN) ?_))
    refine vf_of (nat_MulL (by omega) (by omega)) ?_; repeat (first | (simp only [go_sem, Nat.reduceEqDiff, Nat.reduceAdd, Nat.reduceSub, Nat.reduceMul, Nat.reduceLeDiff, Nat.reduceLT, reduceIte, reduceCtorEq, Nat.succ_ne_zero, elemsC, Int.reduceToNat, Nat.reducePow, i1, i2, i8, i7]) | (simp (disch := (first | omega | (simp only [AL, List.length_map]; omega))) only [AR, AL, ifT, ifF, take_all, List.length_cons, List.length_nil, Int.reduceToNat, Int.reducePow, Nat.reducePow, i1, i2, i8, i7]) | (refine wk_intro (by kernel_rfl) ?_))
    refine ⟨⟨i + 1, by rw [hn], by rw [hnew], by omega⟩, by omega⟩
theorem gam_whole (n : Nat) (hn : (lim n).length ≤ 536870912) : Go.Ev.Fn CX 150 [natV (lim n)] (rv (n : Rat)) := by
  have o1 := nat_Of 1 (by omega)
  have h1 := lim_len1
  have hOf := rat_OfL (s := false) (n := n) (d := 1) hn (by omega)
  rw [show mkRat (sgn false n) 1 = (n : Rat) from Rat.mkRat_one _] at hOf
  refine Go.Ev.Fn.intro (fn := Tryz.f150) (body := (Tryz.f150).body.get!) (by kernel_rfl) (by kernel_rfl) (by kernel_rfl) (fun _ => rfl) (Nat.le_of_ble_eq_true (by kernel_rfl)) ?_; unfold Tryz.f150; simp only [Option.get!_some]
  repeat (first | (simp only [go_sem, Nat.reduceEqDiff, Nat.reduceAdd, Nat.reduceSub, Nat.reduceMul, Nat.reduceLeDiff, Nat.reduceLT, reduceIte, reduceCtorEq, Nat.succ_ne_zero, elemsC, Int.reduceToNat, Nat.reducePow]) | (simp (disch := (first | omega | (simp only [AL, List.length_map]; omega))) only [AR, AL, ifT, ifF, take_all, List.length_cons, List.length_nil, Int.reduceToNat, Int.reducePow, Nat.reducePow]) | (refine wk_intro (by kernel_rfl) ?_) | (refine vf_of (by first | exact o1 | exact hOf) ?_))
theorem pow_len (m : Nat) : (lim (2 ^ m)).length ≤ m + 1 :=
  lim_len_lt (Nat.lt_of_lt_of_le (Nat.pow_lt_pow_right (by omega) (Nat.lt_succ_self m)) (Nat.pow_le_pow_left (by decide) (m + 1)))
theorem gam2_size {n : Nat} (h : n ≤ 1024) : szR (gam2 n) 1024 := by
  unfold gam2
  split
  · have h1 := prodN_len (a := 2) (b := 1) (c := n / 2 - 2) (fun i hi => by omega)
    refine ⟨?_, ?_⟩
    · show (lim ((prodN 2 1 (n / 2 - 2) : Nat) : Int).natAbs).length ≤ _
      rw [Int.natAbs_natCast]; omega
    · show (lim 1).length ≤ _
      have := lim_len1
      omega
  · have h1 := prodN_len (a := 3) (b := 2) (c := (n - 3) / 2) (fun i hi => by omega)
    have h2 := pow_len (n / 2)
    exact szR_mk (s := false) (by omega) (by omega) (by omega)
theorem gam_half (n : Nat) (h1 : 1 ≤ n) (h : n ≤ 1024) : Go.Ev.Fn CX 84 [.int .i64 (n : Int)] (rv (gam2 n)) := by
  have ha := and_one64 (a := n) (by omega)
  have hd : ((n : Int)).tdiv 2 = ((n / 2 : Nat) : Int) := rfl
  by_cases h0 : n % 2 = 0
  · have hr := gam_run 2 1 (n / 2 - 2) ((n / 2 - 1 : Nat) : Int) (by omega) (by omega) (by omega) (by omega) (by omega) (by omega) (by omega) (by omega) (by omega)
    have hl := prodN_len (a := 2) (b := 1) (c := n / 2 - 2) (fun i hi => by omega)
    have hw := gam_whole (prodN 2 1 (n / 2 - 2)) (by omega)
    rw [show gam2 n = ((prodN 2 1 (n / 2 - 2) : Nat) : Rat) from if_pos h0]
    rw [h0] at ha
    refine Go.Ev.Fn.intro (fn := Tryz.f84) (body := (Tryz.f84).body.get!) (by kernel_rfl) (by kernel_rfl) (by kernel_rfl) (fun _ => rfl) (Nat.le_of_ble_eq_true (by kernel_rfl)) ?_; unfold Tryz.f84; simp only [Option.get!_some]
    repeat (first | (simp only [go_sem, Nat.reduceEqDiff, Nat.reduceAdd, Nat.reduceSub, Nat.reduceMul, Nat.reduceLeDiff, Nat.reduceLT, reduceIte, reduceCtorEq, Nat.succ_ne_zero, elemsC, Int.reduceToNat, Nat.reducePow, ha, hd]) | (simp (disch := (first | omega | (simp only [AL, List.length_map]; omega))) only [AR, AL, ifT, ifF, take_all, List.length_cons, List.length_nil, Int.reduceToNat, Int.reducePow, Nat.reducePow, ha, hd]) | (refine wk_intro (by kernel_rfl) ?_) | (refine vf_of (by first | exact hr | exact hw) ?_))
  · have hr := gam_run 3 2 ((n - 3) / 2) ((n : Int) - 2) (by omega) (by omega) (by omega) (by omega) (by omega) (by omega) (by omega) (by omega) (by omega)
    have hl := prodN_len (a := 3) (b := 2) (c := (n - 3) / 2) (fun i hi => by omega)
    have o1 := nat_Of 1 (by omega)
    have l1 := lim_len1
    have hS := shift_up (lim 1) (n / 2) (okL_lim _) (by omega) ((n / 2 : Nat) : Int) rfl (by omega)
    rw [wth_lim, Nat.one_mul] at hS
    have hp := pow_len (n / 2)
    have hOf := rat_OfL (s := false) (n := prodN 3 2 ((n - 3) / 2)) (d := 2 ^ (n / 2)) (by omega) (by omega)
    rw [show gam2 n = mkRat (prodN 3 2 ((n - 3) / 2) : Nat) (2 ^ (n / 2)) from if_neg h0]
    have h01 : n % 2 = 1 := by omega
    rw [h01] at ha
    refine Go.Ev.Fn.intro (fn := Tryz.f84) (body := (Tryz.f84).body.get!) (by kernel_rfl) (by kernel_rfl) (by kernel_rfl) (fun _ => rfl) (Nat.le_of_ble_eq_true (by kernel_rfl)) ?_; unfold Tryz.f84; simp only [Option.get!_some]
    repeat (first | (simp only [go_sem, Nat.reduceEqDiff, Nat.reduceAdd, Nat.reduceSub, Nat.reduceMul, Nat.reduceLeDiff, Nat.reduceLT, reduceIte, reduceCtorEq, Nat.succ_ne_zero, elemsC, Int.reduceToNat, Nat.reducePow, ha, hd]) | (simp (disch := (first | omega | (simp only [AL, List.length_map]; omega))) only [AR, AL, ifT, ifF, take_all, List.length_cons, List.length_nil, Int.reduceToNat, Int.reducePow, Nat.reducePow, ha, hd]) | (refine wk_intro (by kernel_rfl) ?_) | (refine vf_of (by first | exact hr | exact o1 | exact hS | exact hOf) ?_))
    rfl
theorem gam_Half (n : Nat) (h1 : 1 ≤ n) (h : n ≤ 512) : Go.Ev.Fn CX 36 [.int .i64 (n : Int)] (.tup [rv (gam2 n), .int .i64 (n % 2 : Nat), .bool true]) := by
  have ha := and_one64 (a := n) (by omega)
  have hh := gam_half n h1 (by omega)
  refine Go.Ev.Fn.intro (fn := Tryz.f36) (body := (Tryz.f36).body.get!) (by kernel_rfl) (by kernel_rfl) (by kernel_rfl) (fun _ => rfl) (Nat.le_of_ble_eq_true (by kernel_rfl)) ?_; unfold Tryz.f36; simp only [Option.get!_some]
  repeat (first | (simp only [go_sem, Nat.reduceEqDiff, Nat.reduceAdd, Nat.reduceSub, Nat.reduceMul, Nat.reduceLeDiff, Nat.reduceLT, reduceIte, reduceCtorEq, Nat.succ_ne_zero, elemsC, Int.reduceToNat, Nat.reducePow, ha]) | (simp (disch := (first | omega | (simp only [AL, List.length_map]; omega))) only [AR, AL, ifT, ifF, take_all, List.length_cons, List.length_nil, Int.reduceToNat, Int.reducePow, Nat.reducePow, ha]) | (refine wk_intro (by kernel_rfl) ?_) | (refine vf_of (by first | exact hh) ?_))
theorem gam_Half_out (n : Int) (h1 : n < 1 ∨ 512 < n) : Go.Ev.Fn CX 36 [.int .i64 n] (.tup [rv 0, .int .i64 0, .bool false]) := by
  have h0 := rat_Int 0 (by omega)
  refine Go.Ev.Fn.intro (fn := Tryz.f36) (body := (Tryz.f36).body.get!) (by kernel_rfl) (by kernel_rfl) (by kernel_rfl) (fun _ => rfl) (Nat.le_of_ble_eq_true (by kernel_rfl)) ?_; unfold Tryz.f36; simp only [Option.get!_some]
  by_cases h : n < 1
  · repeat (first | (simp only [go_sem, Nat.reduceEqDiff, Nat.reduceAdd, Nat.reduceSub, Nat.reduceMul, Nat.reduceLeDiff, Nat.reduceLT, reduceIte, reduceCtorEq, Nat.succ_ne_zero, elemsC, Int.reduceToNat, Nat.reducePow]) | (simp (disch := (first | omega | (simp only [AL, List.length_map]; omega))) only [AR, AL, ifT, ifF, take_all, List.length_cons, List.length_nil, Int.reduceToNat, Int.reducePow, Nat.reducePow]) | (refine wk_intro (by kernel_rfl) ?_))
    refine vf_of (h0) ?_; repeat (first | (simp only [go_sem, Nat.reduceEqDiff, Nat.reduceAdd, Nat.reduceSub, Nat.reduceMul, Nat.reduceLeDiff, Nat.reduceLT, reduceIte, reduceCtorEq, Nat.succ_ne_zero, elemsC, Int.reduceToNat, Nat.reducePow]) | (simp (disch := (first | omega | (simp only [AL, List.length_map]; omega))) only [AR, AL, ifT, ifF, take_all, List.length_cons, List.length_nil, Int.reduceToNat, Int.reducePow, Nat.reducePow]) | (refine wk_intro (by kernel_rfl) ?_))
    rfl
  · repeat (first | (simp only [go_sem, Nat.reduceEqDiff, Nat.reduceAdd, Nat.reduceSub, Nat.reduceMul, Nat.reduceLeDiff, Nat.reduceLT, reduceIte, reduceCtorEq, Nat.succ_ne_zero, elemsC, Int.reduceToNat, Nat.reducePow]) | (simp (disch := (first | omega | (simp only [AL, List.length_map]; omega))) only [AR, AL, ifT, ifF, take_all, List.length_cons, List.length_nil, Int.reduceToNat, Int.reducePow, Nat.reducePow]) | (refine wk_intro (by kernel_rfl) ?_))
    refine vf_of (h0) ?_; repeat (first | (simp only [go_sem, Nat.reduceEqDiff, Nat.reduceAdd, Nat.reduceSub, Nat.reduceMul, Nat.reduceLeDiff, Nat.reduceLT, reduceIte, reduceCtorEq, Nat.succ_ne_zero, elemsC, Int.reduceToNat, Nat.reducePow]) | (simp (disch := (first | omega | (simp only [AL, List.length_map]; omega))) only [AR, AL, ifT, ifF, take_all, List.length_cons, List.length_nil, Int.reduceToNat, Int.reducePow, Nat.reducePow]) | (refine wk_intro (by kernel_rfl) ?_))
    rfl
end Go.Proofs.YthbjgdmcnonofaaGreat

/- vernierlaw9.GamSteps, in the evaluator. -/
namespace Go.Proofs.YthbjgdmcnonofaaGreat
set_option linter.unusedSimpArgs false
set_option linter.unusedVariables false
set_option maxRecDepth 8000
open Go.Ev
end Go.Proofs.YthbjgdmcnonofaaGreat

/- vernierref9.Choose, in the evaluator. -/
namespace Go.Proofs.YthbjgdmcnonofaaGreat
set_option linter.unusedSimpArgs false
set_option linter.unusedVariables false
set_option maxRecDepth 8000
open Go.Ev
/-- A number of limbs: a reading, or the row [1] that was written out. -/
def RowL (s : St) (t d v : Nat) : Prop := s.tmp t = .sv (natV (lim v)) ∨ (v = 1 ∧ s.tmp t = .ref d 0 1 0 1 ∧ s.obj d 0 = some [.int .u32 1])
theorem cc_len {m k : Nat} (h : m + k ≤ 1048576) : (lim (cc m k)).length ≤ k + 1 :=
  Nat.le_trans (lim_len_mono cc_le) (prodN_len fun i hi => by omega)
theorem cc_quot (m k : Nat) : cc m k * (m + (k + 1)) / (k + 1) = cc m (k + 1) := by
  rw [← cc_step, Nat.mul_div_cancel _ (by omega)]
theorem ref9_Choose (n k : Int) (hn : -9223372036854775808 ≤ n ∧ n < 9223372036854775808) (hk : -9223372036854775808 ≤ k ∧ k < 9223372036854775808) : Go.Ev.Fn CX 122 [.int .i64 n, .int .i64 k] (rv (chR n k : Rat)) := by
  have h0 := ref2_Int 0 (by omega)
  refine Go.Ev.Fn.intro (fn := Tryz.f122) (body := (Tryz.f122).body.get!) (by kernel_rfl) (by kernel_rfl) (by kernel_rfl) (fun _ => rfl) (Nat.le_of_ble_eq_true (by kernel_rfl)) ?_; unfold Tryz.f122; simp only [Option.get!_some]
  by_cases hc : 0 ≤ n ∧ n ≤ 512 ∧ 0 ≤ k ∧ k ≤ n
  · obtain ⟨c1, c2, c3, c4⟩ := hc
    obtain ⟨K, rfl⟩ : ∃ K : Nat, k = (K : Int) := ⟨k.toNat, by omega⟩
    obtain ⟨M, hM⟩ : ∃ M : Nat, n - K = (M : Int) := ⟨(n - K).toNat, by omega⟩
    have hn' : n = ((M + K : Nat) : Int) := by omega
    subst hn'
    have e : chR ((M + K : Nat) : Int) (K : Int) = cc M K := by
      unfold chR
      rw [if_pos ⟨by omega, by omega, by omega, by omega⟩, show (((M + K : Nat) : Int) - (K : Int)).toNat = M by omega, Int.toNat_natCast]
    rw [e]
    have lc := cc_len (m := M) (k := K) (by omega)
    have hOf := ref2_OfL (s := false) (n := cc M K) (d := 1) (by omega) (by have := lim_len1; omega)
    rw [show mkRat (sgn false (cc M K)) 1 = (cc M K : Rat) from Rat.mkRat_one _, lim_one] at hOf
    have e1 : ((M + K : Nat) : Int) - (K : Int) = (M : Int) := by omega
    repeat (first | (simp only [go_sem, Nat.reduceEqDiff, Nat.reduceAdd, Nat.reduceSub, Nat.reduceMul, Nat.reduceLeDiff, Nat.reduceLT, reduceIte, reduceCtorEq, Nat.succ_ne_zero, elemsC, Int.reduceToNat, Nat.reducePow]) | (simp (disch := (first | omega | (simp only [AL, List.length_map]; omega))) only [AR, AL, ifT, ifF, take_all, List.length_cons, List.length_nil, Int.reduceToNat, Int.reducePow, Nat.reducePow]) | (refine wk_intro (by kernel_rfl) ?_))
    refine vp_loop_inv (fun s => s.tmp 4 = .ptr 4 0 0 ∧ s.obj 4 0 = some [.bool false, .sl 0 [], .sl 0 []] ∧ s.tmp 0 = .sv (.int .i64 ((M + K : Nat) : Int)) ∧ s.tmp 1 = .sv (.int .i64 (K : Int)) ∧ ∃ i : Nat, s.tmp 6 = .sv (.int .i64 ((i + 1 : Nat) : Int)) ∧ RowL s 5 23 (cc M i) ∧ i ≤ K)
      (fun s => match s.tmp 6 with | .sv (.int _ n) => ((K : Int) + 1 - n).toNat | _ => 0) ⟨rfl, rfl, rfl, rfl, 0, rfl, .inr ⟨cc_zero _, rfl, rfl⟩, by omega⟩ ?_
    rintro s ⟨i4, iP, i0, i1, i, i6, hR, hi⟩
    by_cases hend : i = K
    · subst hend
      rcases hR with i5 | ⟨hv, i5, iO⟩
      · repeat (first | (simp only [go_sem, Nat.reduceEqDiff, Nat.reduceAdd, Nat.reduceSub, Nat.reduceMul, Nat.reduceLeDiff, Nat.reduceLT, reduceIte, reduceCtorEq, Nat.succ_ne_zero, elemsC, Int.reduceToNat, Nat.reducePow, i4, iP, i0, i1, i6, i5]) | (simp (disch := (first | omega | (simp only [AL, List.length_map]; omega))) only [AR, AL, ifT, ifF, take_all, List.length_cons, List.length_nil, Int.reduceToNat, Int.reducePow, Nat.reducePow, i4, iP, i0, i1, i6, i5]) | (refine wk_intro (by kernel_rfl) ?_))
        refine vf_of (hOf) ?_; repeat (first | (simp only [go_sem, Nat.reduceEqDiff, Nat.reduceAdd, Nat.reduceSub, Nat.reduceMul, Nat.reduceLeDiff, Nat.reduceLT, reduceIte, reduceCtorEq, Nat.succ_ne_zero, elemsC, Int.reduceToNat, Nat.reducePow, i4, iP, i0, i1, i6, i5]) | (simp (disch := (first | omega | (simp only [AL, List.length_map]; omega))) only [AR, AL, ifT, ifF, take_all, List.length_cons, List.length_nil, Int.reduceToNat, Int.reducePow, Nat.reducePow, i4, iP, i0, i1, i6, i5]) | (refine wk_intro (by kernel_rfl) ?_))
      · rw [hv, lim_one] at hOf
        rw [hv]
        repeat (first | (simp only [go_sem, Nat.reduceEqDiff, Nat.reduceAdd, Nat.reduceSub, Nat.reduceMul, Nat.reduceLeDiff, Nat.reduceLT, reduceIte, reduceCtorEq, Nat.succ_ne_zero, elemsC, Int.reduceToNat, Nat.reducePow, i4, iP, i0, i1, i6, i5, iO]) | (simp (disch := (first | omega | (simp only [AL, List.length_map]; omega))) only [AR, AL, ifT, ifF, take_all, List.length_cons, List.length_nil, Int.reduceToNat, Int.reducePow, Nat.reducePow, i4, iP, i0, i1, i6, i5, iO]) | (refine wk_intro (by kernel_rfl) ?_) | (refine vf_of (by first | exact hOf) ?_))
    · have l1 := cc_len (m := M) (k := i) (by omega)
      have oN := ref1_Of (M + (i + 1)) (by omega)
      have oI := ref1_Of (i + 1) (by omega)
      have l2 := lim_len_one (a := M + (i + 1)) (by omega)
      have l3 := lim_len_one (a := i + 1) (by omega)
      have hM2 := ref1_MulL (N := cc M i) (D := M + (i + 1)) (by omega) (by omega)
      have l4 := lim_len_mul (a := cc M i) (b := M + (i + 1))
      have hD := ref1_DivL (N := cc M i * (M + (i + 1))) (D := i + 1) (by omega) (by omega) (by omega)
      rw [cc_quot] at hD
      rcases hR with i5 | ⟨hv, i5, iO⟩
      · repeat (first | (simp only [go_sem, Nat.reduceEqDiff, Nat.reduceAdd, Nat.reduceSub, Nat.reduceMul, Nat.reduceLeDiff, Nat.reduceLT, reduceIte, reduceCtorEq, Nat.succ_ne_zero, elemsC, Int.reduceToNat, Nat.reducePow, i4, iP, i0, i1, i6, i5, e1]) | (simp (disch := (first | omega | (simp only [AL, List.length_map]; omega))) only [AR, AL, ifT, ifF, take_all, List.length_cons, List.length_nil, Int.reduceToNat, Int.reducePow, Nat.reducePow, i4, iP, i0, i1, i6, i5, e1]) | (refine wk_intro (by kernel_rfl) ?_))
        repeat (first | (simp only [go_sem, Nat.reduceEqDiff, Nat.reduceAdd, Nat.reduceSub, Nat.reduceMul, Nat.reduceLeDiff, Nat.reduceLT, reduceIte, reduceCtorEq, Nat.succ_ne_zero, elemsC, Int.reduceToNat, Nat.reducePow, i4, iP, i0, i1, i6, i5, e1]) | (simp (disch := (first | omega | (simp only [AL, List.length_map]; omega))) only [AR, AL, ifT, ifF, take_all, List.length_cons, List.length_nil, Int.reduceToNat, Int.reducePow, Nat.reducePow, i4, iP, i0, i1, i6, i5, e1]) | (refine wk_intro (by kernel_rfl) ?_) | (refine vf_of (by first | exact oN | exact hM2 | exact oI | exact hD) ?_))
        refine ⟨⟨i + 1, rfl, .inl rfl, by omega⟩, by omega⟩
      · rw [hv, lim_one] at hM2
        rw [hv] at hD
        repeat (first | (simp only [go_sem, Nat.reduceEqDiff, Nat.reduceAdd, Nat.reduceSub, Nat.reduceMul, Nat.reduceLeDiff, Nat.reduceLT, reduceIte, reduceCtorEq, Nat.succ_ne_zero, elemsC, Int.reduceToNat, Nat.reducePow, i4, iP, i0, i1, i6, i5, iO, e1, N0]) | (simp (disch := (first | omega | (simp only [AL, List.length_map]; omega))) only [AR, AL, ifT, ifF, take_all, List.length_cons, List.length_nil, Int.reduceToNat, Int.reducePow, Nat.reducePow, i4, iP, i0, i1, i6, i5, iO, e1, N0]) | (refine wk_intro (by kernel_rfl) ?_) | (refine vf_of (by first | exact oN | exact hM2 | exact oI | exact hD) ?_))
        refine ⟨⟨i + 1, rfl, .inl rfl, by omega⟩, by omega⟩
  · have e : chR n k = 0 := if_neg hc
    rw [e]
    by_cases c1 : n < 0
    · repeat (first | (simp only [go_sem, Nat.reduceEqDiff, Nat.reduceAdd, Nat.reduceSub, Nat.reduceMul, Nat.reduceLeDiff, Nat.reduceLT, reduceIte, reduceCtorEq, Nat.succ_ne_zero, elemsC, Int.reduceToNat, Nat.reducePow]) | (simp (disch := (first | omega | (simp only [AL, List.length_map]; omega))) only [AR, AL, ifT, ifF, take_all, List.length_cons, List.length_nil, Int.reduceToNat, Int.reducePow, Nat.reducePow]) | (refine wk_intro (by kernel_rfl) ?_))
      refine vf_of (h0) ?_; repeat (first | (simp only [go_sem, Nat.reduceEqDiff, Nat.reduceAdd, Nat.reduceSub, Nat.reduceMul, Nat.reduceLeDiff, Nat.reduceLT, reduceIte, reduceCtorEq, Nat.succ_ne_zero, elemsC, Int.reduceToNat, Nat.reducePow]) | (simp (disch := (first | omega | (simp only [AL, List.length_map]; omega))) only [AR, AL, ifT, ifF, take_all, List.length_cons, List.length_nil, Int.reduceToNat, Int.reducePow, Nat.reducePow]) | (refine wk_intro (by kernel_rfl) ?_))
      rfl
    · by_cases c2 : 512 < n
      · repeat (first | (simp only [go_sem, Nat.reduceEqDiff, Nat.reduceAdd, Nat.reduceSub, Nat.reduceMul, Nat.reduceLeDiff, Nat.reduceLT, reduceIte, reduceCtorEq, Nat.succ_ne_zero, elemsC, Int.reduceToNat, Nat.reducePow]) | (simp (disch := (first | omega | (simp only [AL, List.length_map]; omega))) only [AR, AL, ifT, ifF, take_all, List.length_cons, List.length_nil, Int.reduceToNat, Int.reducePow, Nat.reducePow]) | (refine wk_intro (by kernel_rfl) ?_))
        refine vf_of (h0) ?_; repeat (first | (simp only [go_sem, Nat.reduceEqDiff, Nat.reduceAdd, Nat.reduceSub, Nat.reduceMul, Nat.reduceLeDiff, Nat.reduceLT, reduceIte, reduceCtorEq, Nat.succ_ne_zero, elemsC, Int.reduceToNat, Nat.reducePow]) | (simp (disch := (first | omega | (simp only [AL, List.length_map]; omega))) only [AR, AL, ifT, ifF, take_all, List.length_cons, List.length_nil, Int.reduceToNat, Int.reducePow, Nat.reducePow]) | (refine wk_intro (by kernel_rfl) ?_))
        rfl
      · by_cases c3 : k < 0
        · repeat (first | (simp only [go_sem, Nat.reduceEqDiff, Nat.reduceAdd, Nat.reduceSub, Nat.reduceMul, Nat.reduceLeDiff, Nat.reduceLT, reduceIte, reduceCtorEq, Nat.succ_ne_zero, elemsC, Int.reduceToNat, Nat.reducePow]) | (simp (disch := (first | omega | (simp only [AL, List.length_map]; omega))) only [AR, AL, ifT, ifF, take_all, List.length_cons, List.length_nil, Int.reduceToNat, Int.reducePow, Nat.reducePow]) | (refine wk_intro (by kernel_rfl) ?_))
          refine vf_of (h0) ?_; repeat (first | (simp only [go_sem, Nat.reduceEqDiff, Nat.reduceAdd, Nat.reduceSub, Nat.reduceMul, Nat.reduceLeDiff, Nat.reduceLT, reduceIte, reduceCtorEq, Nat.succ_ne_zero, elemsC, Int.reduceToNat, Nat.reducePow]) | (simp (disch := (first | omega | (simp only [AL, List.length_map]; omega))) only [AR, AL, ifT, ifF, take_all, List.length_cons, List.length_nil, Int.reduceToNat, Int.reducePow, Nat.reducePow]) | (refine wk_intro (by kernel_rfl) ?_))
          rfl
        · have c4 : n < k := by omega
          repeat (first | (simp only [go_sem, Nat.reduceEqDiff, Nat.reduceAdd, Nat.reduceSub, Nat.reduceMul, Nat.reduceLeDiff, Nat.reduceLT, reduceIte, reduceCtorEq, Nat.succ_ne_zero, elemsC, Int.reduceToNat, Nat.reducePow]) | (simp (disch := (first | omega | (simp only [AL, List.length_map]; omega))) only [AR, AL, ifT, ifF, take_all, List.length_cons, List.length_nil, Int.reduceToNat, Int.reducePow, Nat.reducePow]) | (refine wk_intro (by kernel_rfl) ?_) | (refine vf_of (by first | exact h0) ?_))
          rfl
end Go.Proofs.YthbjgdmcnonofaaGreat

/- gam.Choose, Factorial, Beta; vernierlaw9.GamChooses and GamBetas, in the evaluator. -/
namespace Go.Proofs.YthbjgdmcnonofaaGreat
set_option linter.unusedSimpArgs false
set_option linter.unusedVariables false
set_option maxRecDepth 8000
open Go.Ev
theorem nat_szR {n L : Nat} (h : (lim n).length ≤ L) (hL : 1 ≤ L) : szR (n : Rat) L := ⟨by rw [show ((n : Rat)).num = (n : Int) from rfl, Int.natAbs_natCast]; exact h, by rw [show ((n : Rat)).den = 1 from rfl, lim_one]; exact hL⟩
theorem chR_size (n k : Int) : szR (chR n k : Rat) 1024 := by
  unfold chR
  split
  · rename_i h
    have := cc_len (m := (n - k).toNat) (k := k.toNat) (by omega)
    exact nat_szR (by omega) (by omega)
  · exact nat_szR (by rw [lim_zero]; simp) (by omega)
theorem chR_symm {n k : Int} : chR n k = chR n (n - k) := by
  unfold chR
  by_cases h : 0 ≤ n ∧ n ≤ 512 ∧ 0 ≤ k ∧ k ≤ n
  · rw [if_pos h, if_pos ⟨by omega, by omega, by omega, by omega⟩, cc_symm, show (n - (n - k)).toNat = k.toNat by omega]
  · rw [if_neg h, if_neg (by omega)]
theorem chR_pascal {n k : Int} (h1 : 1 ≤ n) (h2 : n ≤ 512) (h3 : 0 ≤ k) (h4 : k ≤ n) : chR n k = chR (n - 1) (k - 1) + chR (n - 1) k := by
  unfold chR
  rw [if_pos ⟨by omega, h2, h3, h4⟩]
  by_cases hk : k = 0
  · rw [if_neg (by omega), if_pos (by omega), hk, show (0 : Int).toNat = 0 from rfl, cc_zero, cc_zero]
  · rw [if_pos (by omega)]
    by_cases hn : k = n
    · rw [if_neg (by omega), hn, show (n - n).toNat = 0 by omega, show (n - 1 - (n - 1)).toNat = 0 by omega]
      simp [cc]
    · rw [if_pos (by omega)]
      obtain ⟨m, hm⟩ : ∃ m : Nat, n - k = ((m + 1 : Nat) : Int) := ⟨(n - k).toNat - 1, by omega⟩
      obtain ⟨j, hj⟩ : ∃ j : Nat, k = ((j + 1 : Nat) : Int) := ⟨k.toNat - 1, by omega⟩
      rw [show (n - k).toNat = m + 1 by omega, show k.toNat = j + 1 by omega, show (n - 1 - (k - 1)).toNat = m + 1 by omega, show (k - 1).toNat = j by omega, show (n - 1 - k).toNat = m by omega]
      rw [cc_succ]
      exact Nat.add_comm _ _
theorem wf_i64 {n : Int} (h : (Lit.int .i64 n).wf = true) : -9223372036854775808 ≤ n ∧ n < 9223372036854775808 := by
  have h' : decide (IntKind.i64.min ≤ n ∧ n ≤ IntKind.i64.max) = true := by simpa [Lit.wf] using h
  have := of_decide_eq_true h'
  simp only [show IntKind.i64.min = -9223372036854775808 from rfl, show IntKind.i64.max = 9223372036854775807 from rfl] at this
  omega
theorem and_two (a b : Nat) : (a &&& b) % 2 = a % 2 * (b % 2) := by
  have h := Nat.and_mod_two_pow (a := a) (b := b) (n := 1)
  rw [Nat.pow_one] at h
  rw [h]
  rcases Nat.mod_two_eq_zero_or_one a with ha | ha <;> rcases Nat.mod_two_eq_zero_or_one b with hb | hb <;> rw [ha, hb] <;> rfl
theorem beta2_size {a b : Nat} (ha : a ≤ 512) (hb : b ≤ 512) : szR (beta2 a b) 3072 := by
  have z1 := gam2_size (n := a) (by omega)
  have z2 := gam2_size (n := b) (by omega)
  have z3 := gam2_size (n := a + b) (by omega)
  exact szR_div (szR_mul z1 z2 (by omega)) z3 (by omega) (by omega)
theorem gam_Beta (a b : Nat) (ha : 1 ≤ a) (ha2 : a ≤ 256) (hb : 1 ≤ b) (hb2 : b ≤ 256) : Go.Ev.Fn CX 167 [.int .i64 (a : Int), .int .i64 (b : Int)] (.tup [rv (beta2 a b), .int .i64 (a % 2 * (b % 2) : Nat), .bool true]) := by
  have g1 := gam_half a ha (by omega)
  have g2 := gam_half b hb (by omega)
  have g3 := gam_half (a + b) (by omega) (by omega)
  have z1 := gam2_size (n := a) (by omega)
  have z2 := gam2_size (n := b) (by omega)
  have z3 := gam2_size (n := a + b) (by omega)
  have m1 := rat_Mul (RatA_rv z1) (RatA_rv z2) (by omega) (by omega) (by omega)
  have d1 := rat_Div (RatA_rv (szR_mul z1 z2 (by omega))) (RatA_rv z3) (by omega) (by omega) (by omega)
  rw [decide_eq_true (gam2_pos (n := a + b)), show gam2 a * gam2 b / gam2 (a + b) = beta2 a b from rfl] at d1
  have hb1 := b_and64i (a := a) (b := b) (by omega) (by omega)
  have hle : a &&& b ≤ a := Nat.and_le_left
  have hb2 := and_one64 (a := a &&& b) (by omega)
  rw [and_two] at hb2
  refine Go.Ev.Fn.intro (fn := Tryz.f167) (body := (Tryz.f167).body.get!) (by kernel_rfl) (by kernel_rfl) (by kernel_rfl) (fun _ => rfl) (Nat.le_of_ble_eq_true (by kernel_rfl)) ?_; unfold Tryz.f167; simp only [Option.get!_some]
  repeat (first | (simp only [go_sem, Nat.reduceEqDiff, Nat.reduceAdd, Nat.reduceSub, Nat.reduceMul, Nat.reduceLeDiff, Nat.reduceLT, reduceIte, reduceCtorEq, Nat.succ_ne_zero, elemsC, Int.reduceToNat, Nat.reducePow, hb1, hb2]) | (simp (disch := (first | omega | (simp only [AL, List.length_map]; omega))) only [AR, AL, ifT, ifF, take_all, List.length_cons, List.length_nil, Int.reduceToNat, Int.reducePow, Nat.reducePow, hb1, hb2]) | (refine wk_intro (by kernel_rfl) ?_) | (refine vf_of (by first | exact g1 | exact g2 | exact m1 | exact g3 | exact d1) ?_))
theorem gam_Beta_out (a b : Int) (h : a < 1 ∨ 256 < a ∨ b < 1 ∨ 256 < b) : Go.Ev.Fn CX 167 [.int .i64 a, .int .i64 b] (.tup [rv 0, .int .i64 0, .bool false]) := by
  have h0 := rat_Int 0 (by omega)
  refine Go.Ev.Fn.intro (fn := Tryz.f167) (body := (Tryz.f167).body.get!) (by kernel_rfl) (by kernel_rfl) (by kernel_rfl) (fun _ => rfl) (Nat.le_of_ble_eq_true (by kernel_rfl)) ?_; unfold Tryz.f167; simp only [Option.get!_some]
  by_cases h1 : a < 1
  · repeat (first | (simp only [go_sem, Nat.reduceEqDiff, Nat.reduceAdd, Nat.reduceSub, Nat.reduceMul, Nat.reduceLeDiff, Nat.reduceLT, reduceIte, reduceCtorEq, Nat.succ_ne_zero, elemsC, Int.reduceToNat, Nat.reducePow]) | (simp (disch := (first | omega | (simp only [AL, List.length_map]; omega))) only [AR, AL, ifT, ifF, take_all, List.length_cons, List.length_nil, Int.reduceToNat, Int.reducePow, Nat.reducePow]) | (refine wk_intro (by kernel_rfl) ?_))
    refine vf_of (h0) ?_; repeat (first | (simp only [go_sem, Nat.reduceEqDiff, Nat.reduceAdd, Nat.reduceSub, Nat.reduceMul, Nat.reduceLeDiff, Nat.reduceLT, reduceIte, reduceCtorEq, Nat.succ_ne_zero, elemsC, Int.reduceToNat, Nat.reducePow]) | (simp (disch := (first | omega | (simp only [AL, List.length_map]; omega))) only [AR, AL, ifT, ifF, take_all, List.length_cons, List.length_nil, Int.reduceToNat, Int.reducePow, Nat.reducePow]) | (refine wk_intro (by kernel_rfl) ?_))
    rfl
  · by_cases h2 : 256 < a
    · repeat (first | (simp only [go_sem, Nat.reduceEqDiff, Nat.reduceAdd, Nat.reduceSub, Nat.reduceMul, Nat.reduceLeDiff, Nat.reduceLT, reduceIte, reduceCtorEq, Nat.succ_ne_zero, elemsC, Int.reduceToNat, Nat.reducePow]) | (simp (disch := (first | omega | (simp only [AL, List.length_map]; omega))) only [AR, AL, ifT, ifF, take_all, List.length_cons, List.length_nil, Int.reduceToNat, Int.reducePow, Nat.reducePow]) | (refine wk_intro (by kernel_rfl) ?_))
      refine vf_of (h0) ?_; repeat (first | (simp only [go_sem, Nat.reduceEqDiff, Nat.reduceAdd, Nat.reduceSub, Nat.reduceMul, Nat.reduceLeDiff, Nat.reduceLT, reduceIte, reduceCtorEq, Nat.succ_ne_zero, elemsC, Int.reduceToNat, Nat.reducePow]) | (simp (disch := (first | omega | (simp only [AL, List.length_map]; omega))) only [AR, AL, ifT, ifF, take_all, List.length_cons, List.length_nil, Int.reduceToNat, Int.reducePow, Nat.reducePow]) | (refine wk_intro (by kernel_rfl) ?_))
      rfl
    · by_cases h3 : b < 1
      · repeat (first | (simp only [go_sem, Nat.reduceEqDiff, Nat.reduceAdd, Nat.reduceSub, Nat.reduceMul, Nat.reduceLeDiff, Nat.reduceLT, reduceIte, reduceCtorEq, Nat.succ_ne_zero, elemsC, Int.reduceToNat, Nat.reducePow]) | (simp (disch := (first | omega | (simp only [AL, List.length_map]; omega))) only [AR, AL, ifT, ifF, take_all, List.length_cons, List.length_nil, Int.reduceToNat, Int.reducePow, Nat.reducePow]) | (refine wk_intro (by kernel_rfl) ?_))
        refine vf_of (h0) ?_; repeat (first | (simp only [go_sem, Nat.reduceEqDiff, Nat.reduceAdd, Nat.reduceSub, Nat.reduceMul, Nat.reduceLeDiff, Nat.reduceLT, reduceIte, reduceCtorEq, Nat.succ_ne_zero, elemsC, Int.reduceToNat, Nat.reducePow]) | (simp (disch := (first | omega | (simp only [AL, List.length_map]; omega))) only [AR, AL, ifT, ifF, take_all, List.length_cons, List.length_nil, Int.reduceToNat, Int.reducePow, Nat.reducePow]) | (refine wk_intro (by kernel_rfl) ?_))
        rfl
      · have h4 : 256 < b := by omega
        repeat (first | (simp only [go_sem, Nat.reduceEqDiff, Nat.reduceAdd, Nat.reduceSub, Nat.reduceMul, Nat.reduceLeDiff, Nat.reduceLT, reduceIte, reduceCtorEq, Nat.succ_ne_zero, elemsC, Int.reduceToNat, Nat.reducePow]) | (simp (disch := (first | omega | (simp only [AL, List.length_map]; omega))) only [AR, AL, ifT, ifF, take_all, List.length_cons, List.length_nil, Int.reduceToNat, Int.reducePow, Nat.reducePow]) | (refine wk_intro (by kernel_rfl) ?_) | (refine vf_of (by first | exact h0) ?_))
        rfl
end Go.Proofs.YthbjgdmcnonofaaGreat

/- Ways times chances: plain mathematics, no program. -/
namespace Go.Ev
/-- Of n tries, how many parts just j successes have; p: a success's parts, f: a failure's. -/
def termN (p f n j : Nat) : Nat := cc (n - j) j * p ^ j * f ^ (n - j)
/-- At most k successes: so many of the first. -/
def sumN (p f n : Nat) : Nat → Nat
  | 0 => 0
  | k + 1 => sumN p f n k + termN p f n k
theorem cc_move (m j : Nat) : cc (m + 1) j * (m + 1) = cc m (j + 1) * (j + 1) := by
  rw [cc_step, cc_symm (m + 1) j, cc_step, cc_symm j m]
  congr 1
  omega
theorem ways_step {p n j : Nat} (h : j < n) : cc (n - j) j * p ^ j * p * (n - j) / (j + 1) = cc (n - (j + 1)) (j + 1) * p ^ (j + 1) := by
  obtain ⟨m, hm⟩ : ∃ m, n - j = m + 1 := ⟨n - j - 1, by omega⟩
  rw [hm, show n - (j + 1) = m by omega]
  have h1 := cc_move m j
  have e : cc (m + 1) j * p ^ j * p * (m + 1) = cc m (j + 1) * p ^ (j + 1) * (j + 1) := by
    rw [Nat.mul_assoc (cc (m + 1) j), ← Nat.pow_succ, Nat.mul_right_comm, h1, Nat.mul_right_comm]
  rw [e, Nat.mul_div_cancel _ (by omega)]
/-- All of them are all. -/
theorem sumN_all : ∀ (p f n : Nat), sumN p f n (n + 1) = (p + f) ^ n := by
  have hz : ∀ p f n k, (∀ j, j < k → n < j → termN p f n j = 0) → True := fun _ _ _ _ _ => trivial
  intro p f n
  have key : ∀ n k, k ≤ n → sumN p f (n + 1) (k + 1) = f * sumN p f n (k + 1) + p * sumN p f n k := by
    intro n k hk
    induction k with
    | zero =>
      show 0 + termN p f (n + 1) 0 = f * (0 + termN p f n 0) + p * 0
      unfold termN
      simp only [Nat.sub_zero, cc_zero, Nat.pow_zero, Nat.mul_one, Nat.one_mul, Nat.zero_add, Nat.mul_zero, Nat.add_zero]
      rw [Nat.pow_succ, Nat.mul_comm]
    | succ k ih =>
      have h1 := ih (by omega)
      have h2 : termN p f (n + 1) (k + 1) = f * termN p f n (k + 1) + p * termN p f n k := by
        unfold termN
        obtain ⟨m, rfl⟩ : ∃ m, n = m + (k + 1) := ⟨n - (k + 1), by omega⟩
        rw [show m + (k + 1) + 1 - (k + 1) = m + 1 by omega, show m + (k + 1) - (k + 1) = m by omega, show m + (k + 1) - k = m + 1 by omega, cc_succ, Nat.add_mul, Nat.add_mul]
        rw [Nat.pow_succ f m, Nat.pow_succ p k]
        have e1 : cc m (k + 1) * (p ^ k * p) * (f ^ m * f) = f * (cc m (k + 1) * (p ^ k * p) * f ^ m) := by
          rw [← Nat.mul_assoc, Nat.mul_comm]
        have e2 : cc (m + 1) k * (p ^ k * p) * (f ^ m * f) = p * (cc (m + 1) k * p ^ k * (f ^ m * f)) := by
          rw [← Nat.mul_assoc (cc (m + 1) k), Nat.mul_comm (cc (m + 1) k * p ^ k) p, Nat.mul_assoc p]
        rw [e1, e2]
      show sumN p f (n + 1) (k + 1) + termN p f (n + 1) (k + 1) = f * (sumN p f n (k + 1) + termN p f n (k + 1)) + p * (sumN p f n k + termN p f n k)
      rw [h1, h2, Nat.mul_add, Nat.mul_add]
      omega
  induction n with
  | zero => show 0 + termN p f 0 0 = 1; simp [termN, cc]
  | succ n ih =>
    have h1 := key n n (Nat.le_refl _)
    have h2 : termN p f (n + 1) (n + 1) = p * termN p f n n := by
      unfold termN
      simp only [Nat.sub_self, Nat.pow_zero, Nat.mul_one]
      rw [show cc 0 (n + 1) = 1 by simp [cc], show cc 0 n = 1 by simp [cc], Nat.one_mul, Nat.one_mul, Nat.pow_succ, Nat.mul_comm]
    show sumN p f (n + 1) (n + 1) + termN p f (n + 1) (n + 1) = _
    rw [h1, h2, Nat.add_assoc, ← Nat.mul_add]
    show f * sumN p f n (n + 1) + p * sumN p f n (n + 1) = _
    rw [ih, ← Nat.add_mul, Nat.pow_succ, Nat.mul_comm, Nat.add_comm f p]
theorem sumN_mono (p f n : Nat) {a b : Nat} (h : a ≤ b) : sumN p f n a ≤ sumN p f n b := by
  induction b with
  | zero => have : a = 0 := by omega
            subst this; exact Nat.le_refl _
  | succ b ih =>
    rcases Nat.lt_or_ge b a with h1 | h1
    · have : a = b + 1 := by omega
      subst this; exact Nat.le_refl _
    · exact Nat.le_trans (ih h1) (Nat.le_add_right _ _)
end Go.Ev

/- Fractions of one denominator; the least count that is so likely: plain mathematics, no program. -/
namespace Go.Ev
theorem mk_mul (a : Int) {D : Nat} (hD : D ≠ 0) : mkRat a D * ((D : Nat) : Rat) = (a : Rat) := by
  rw [Rat.mkRat_eq_div]
  exact Rat.div_mul_cancel (by exact_mod_cast hD)
theorem le_mul_iff {x y c : Rat} (hc : 0 < c) : x ≤ y ↔ x * c ≤ y * c := by
  constructor
  · intro h
    exact Rat.mul_le_mul_of_nonneg_right h (by grind)
  · intro h
    rcases Rat.le_total (a := x) (b := y) with h1 | h1
    · exact h1
    · have h2 := Rat.mul_le_mul_of_nonneg_right h1 (by grind : (0 : Rat) ≤ c)
      have h3 : (x - y) * c = 0 := by grind
      rcases Rat.mul_eq_zero.1 h3 with h4 | h4 <;> grind
theorem mk_le {a b : Int} {D : Nat} (hD : 0 < D) : mkRat a D ≤ mkRat b D ↔ a ≤ b := by
  have hc : (0 : Rat) < ((D : Nat) : Rat) := by exact_mod_cast hD
  rw [le_mul_iff hc, mk_mul _ (by omega), mk_mul _ (by omega)]
  exact Rat.intCast_le_intCast
theorem mk_self {D : Nat} (hD : 0 < D) : mkRat (D : Int) D = 1 := by
  rw [Rat.mkRat_eq_div]
  have hc : ((D : Nat) : Rat) ≠ 0 := by exact_mod_cast (show D ≠ 0 by omega)
  have e : (((D : Nat) : Int) : Rat) = ((D : Nat) : Rat) := rfl
  rw [e]
  rw [Rat.div_def]
  exact Rat.mul_inv_cancel _ hc
/-- How likely at most k of n tries succeed. -/
def cdfB (n : Nat) (k : Int) (x : Rat) : Rat := if k < 0 then 0 else if (n : Int) ≤ k then 1 else mkRat (sumN x.num.natAbs (x.den - x.num.natAbs) n (k.toNat + 1) : Nat) (x.den ^ n)
theorem unit_num {x : Rat} (h0 : 0 ≤ x) (h1 : x ≤ 1) : x.num.natAbs ≤ x.den ∧ (x.num.natAbs : Int) = x.num := by
  have h2 := Rat.num_nonneg.2 h0
  have h3 := (Rat.le_iff x 1).1 h1
  rw [show (1 : Rat).den = 1 from rfl, show (1 : Rat).num = 1 from rfl] at h3
  omega
theorem den_pos (x : Rat) (n : Nat) : 0 < x.den ^ n := Nat.pow_pos (Nat.pos_of_ne_zero x.den_nz)
theorem cdfB_mono {n : Nat} {x : Rat} (h0 : 0 ≤ x) (h1 : x ≤ 1) {i j : Nat} (h : i ≤ j) : cdfB n i x ≤ cdfB n j x := by
  obtain ⟨hle, -⟩ := unit_num h0 h1
  unfold cdfB
  rw [if_neg (show ¬ ((i : Nat) : Int) < 0 by omega), if_neg (show ¬ ((j : Nat) : Int) < 0 by omega)]
  by_cases hj : (n : Int) ≤ j
  · rw [if_pos hj]
    by_cases hi : (n : Int) ≤ i
    · rw [if_pos hi]
      exact Rat.le_refl
    · rw [if_neg hi, ← mk_self (den_pos x n), mk_le (den_pos x n)]
      have h2 := sumN_mono x.num.natAbs (x.den - x.num.natAbs) n (show i + 1 ≤ n + 1 by omega)
      rw [sumN_all, show x.num.natAbs + (x.den - x.num.natAbs) = x.den by omega] at h2
      rw [Int.toNat_natCast]
      exact Int.ofNat_le.2 h2
  · rw [if_neg hj, if_neg (show ¬ (n : Int) ≤ i by omega), mk_le (den_pos x n)]
    have h2 := sumN_mono x.num.natAbs (x.den - x.num.natAbs) n (show i + 1 ≤ j + 1 by omega)
    rw [Int.toNat_natCast, Int.toNat_natCast]
    exact Int.ofNat_le.2 h2
/-- The least count that is so likely. -/
def isLeast (n : Nat) (x q : Rat) (k : Nat) : Prop := k ≤ n ∧ (∀ j : Nat, j < k → cdfB n j x < q) ∧ (k = n ∨ q ≤ cdfB n k x)
theorem isLeast_unique {n : Nat} {x q : Rat} {k l : Nat} (hk : isLeast n x q k) (hl : isLeast n x q l) : k = l := by
  obtain ⟨k1, k2, k3⟩ := hk
  obtain ⟨l1, l2, l3⟩ := hl
  rcases Nat.lt_trichotomy k l with h | h | h
  · have := l2 k h
    rcases k3 with h3 | h3
    · omega
    · exfalso; grind
  · exact h
  · have := k2 l h
    rcases l3 with h3 | h3
    · omega
    · exfalso; grind
/-- Is it so likely? By whole numbers. -/
theorem cdfB_ge {n k : Nat} {x q : Rat} (hk : k < n) : q ≤ cdfB n k x ↔ q.num * ((x.den ^ n : Nat) : Int) ≤ ((sumN x.num.natAbs (x.den - x.num.natAbs) n (k + 1) * q.den : Nat) : Int) := by
  unfold cdfB
  rw [if_neg (by omega), if_neg (by omega), Int.toNat_natCast]
  have hD := den_pos x n
  generalize x.den ^ n = D at *
  generalize sumN x.num.natAbs (x.den - x.num.natAbs) n (k + 1) = S
  have hc : (0 : Rat) < ((D : Nat) : Rat) := by exact_mod_cast hD
  have hq : (0 : Rat) < ((q.den : Nat) : Rat) := by exact_mod_cast Nat.pos_of_ne_zero q.den_nz
  rw [le_mul_iff hc, mk_mul _ (by omega), le_mul_iff hq]
  have e1 : q * ((D : Nat) : Rat) * ((q.den : Nat) : Rat) = ((q.num * ((D : Nat) : Int) : Int) : Rat) := by
    have h := mk_mul q.num q.den_nz
    rw [Rat.mkRat_self] at h
    rw [Rat.intCast_mul, ← h, Rat.intCast_natCast]
    grind
  have e2 : (((S : Nat) : Int) : Rat) * ((q.den : Nat) : Rat) = (((S * q.den : Nat) : Int) : Rat) := by
    rw [Int.natCast_mul, Rat.intCast_mul]
    rfl
  rw [e1, e2]
  exact Rat.intCast_le_intCast
end Go.Ev

/- incb: power, first, row of whole numbers, in the evaluator. -/
namespace Go.Proofs.YthbjgdmcnonofaaGreat
set_option linter.unusedSimpArgs false
set_option linter.unusedVariables false
set_option maxRecDepth 8000
open Go.Ev
/-- A number's whole part in units. -/
abbrev unN (q : Rat) (w : Nat) : Nat := q.num.natAbs * 2 ^ w / q.den
/-- A number's power, as incb tells it. -/
abbrev pwN (q : Rat) (A w : Nat) : Nat × Nat := powGo w 4 A (2 ^ w) (2 ^ w + 1) (unN q w) (unN q w + 1)
theorem unN_len {q : Rat} {w L : Nat} (hz : szR q L) (hL : L ≤ 10) (hw : w ≤ 900) : (lim (unN q w)).length ≤ 49 ∧ (lim (unN q w + 1)).length ≤ 50 := by
  have h1 := lim_len_shl (a := q.num.natAbs) (n := w)
  have h2 : (lim (unN q w)).length ≤ _ := lim_len_mono (Nat.div_le_self (q.num.natAbs * 2 ^ w) q.den)
  have h3 := hz.1
  have l1 := lim_len1
  have h4 := lim_len_add (a := unN q w) (b := 1) (L := 49) (by omega) (by omega)
  exact ⟨by omega, by omega⟩
theorem incb_power {q : Rat} {A w L : Nat} (hA : A ≤ 15) (hz : szR q L) (hL : L ≤ 10) (hw : w ≤ 900) (hw0 : 0 < w) : Go.Ev.Fn CX 166 [.int .i64 (2 * (A : Int)), rv q, .int .i64 (w : Int)] (spanV (pwN q A w).1 (pwN q A w).2) := by
  have r : Go.Ev.Fn CX 100 [rv q, .int .i64 (w : Int)] (spanV (unN q w) (unN q w + 1)) := fix_Rat hz (by omega) (w := w) (by omega)
  obtain ⟨l1, l2⟩ := unN_len hz hL hw
  have p := fix_Power (a1 := unN q w) (a2 := unN q w + 1) (n := A) (w := w) (F := 4) (by omega) (by omega) (by omega) l2 (by omega) hw0
  have an := and_one64 (a := 2 * A) (by omega)
  rw [show 2 * A % 2 = 0 by omega, show ((2 * A : Nat) : Int) = 2 * (A : Int) by omega] at an
  have td : (2 * (A : Int)).tdiv 2 = (A : Int) := by
    rw [Int.mul_comm]; exact Int.mul_tdiv_cancel _ (by omega)
  have td2 : ((2 * A : Nat) : Int).tdiv 2 = (A : Int) := td
  generalize (pwN q A w).1 = x at *
  generalize (pwN q A w).2 = y at *
  generalize unN q w = u at *
  refine Go.Ev.Fn.intro (fn := Tryz.f166) (body := (Tryz.f166).body.get!) (by kernel_rfl) (by kernel_rfl) (by kernel_rfl) (fun _ => rfl) (Nat.le_of_ble_eq_true (by kernel_rfl)) ?_; unfold Tryz.f166; simp only [Option.get!_some]
  repeat (first | (simp only [go_sem, Nat.reduceEqDiff, Nat.reduceAdd, Nat.reduceSub, Nat.reduceMul, Nat.reduceLeDiff, Nat.reduceLT, reduceIte, reduceCtorEq, Nat.succ_ne_zero, elemsC, Int.reduceToNat, Nat.reducePow, an, td, td2]) | (simp (disch := (first | omega | (simp only [AL, List.length_map]; omega))) only [AR, AL, ifT, ifF, take_all, List.length_cons, List.length_nil, Int.reduceToNat, Int.reducePow, Nat.reducePow, an, td, td2]) | (refine wk_intro (by kernel_rfl) ?_) | (refine vp_draw (id := 4) (l := []) (by kernel_rfl) ?_) | (refine vf_of (by first | exact r | exact p) ?_))
/-- Beta of whole numbers, upside down. -/
def wyN (A B : Nat) : Nat := prodN B 1 A / facN A
theorem wyN_eq {A B : Nat} (hB : 1 ≤ B) : wyN A B = cc (B - 1) A := by
  have h := prod_cc (B - 1) A
  rw [show B - 1 + 1 = B by omega] at h
  unfold wyN
  rw [h, Nat.mul_div_cancel _ (facN_pos A)]
def betaOk (A B : Nat) : Bool := Nat.beq ((beta2 (2 * A) (2 * B)).num.natAbs * A * wyN A B) (beta2 (2 * A) (2 * B)).den && (Nat.ble 1 (beta2 (2 * A) (2 * B)).num.natAbs && Nat.ble (wyN A B) 128)
theorem betas_ok : (List.range 9).all (fun a => (List.range (9 - a)).all fun b => betaOk (a + 1) (b + 1)) = true := by decide +kernel
theorem beta_ok {A B : Nat} (h1 : 1 ≤ A) (h2 : 1 ≤ B) (h3 : A + B ≤ 10) : (beta2 (2 * A) (2 * B)).den * 2 = cc (B - 1) A * ((beta2 (2 * A) (2 * B)).num.natAbs * (2 * A)) ∧ 0 < (beta2 (2 * A) (2 * B)).num.natAbs * (2 * A) ∧ cc (B - 1) A ≤ 128 := by
  have h := List.all_eq_true.1 betas_ok (A - 1) (List.mem_range.2 (by omega))
  have h' := List.all_eq_true.1 h (B - 1) (List.mem_range.2 (by omega))
  rw [show A - 1 + 1 = A by omega, show B - 1 + 1 = B by omega] at h'
  unfold betaOk at h'
  rw [Bool.and_eq_true, Bool.and_eq_true, wyN_eq h2] at h'
  obtain ⟨e1, e2, e3⟩ := h'
  have e1 := Nat.eq_of_beq_eq_true e1
  have e2 := Nat.le_of_ble_eq_true e2
  have e3 := Nat.le_of_ble_eq_true e3
  refine ⟨?_, Nat.mul_pos e2 (by omega), e3⟩
  rw [← e1]
  grind
/-- The row's first term: as many units as it is at least, and a unit more than it is at most. -/
abbrev fsN (x : Rat) (A B w : Nat) : Nat × Nat := ((pwN x A w).1 * (pwN (1 - x) B w).1 / 2 ^ w * cc (B - 1) A, ((pwN x A w).2 * (pwN (1 - x) B w).2 / 2 ^ w + 1) * cc (B - 1) A + 1)
theorem okS_un {q : Rat} {w : Nat} (h0 : 0 ≤ q) (h1 : q ≤ 1) : okS (2 ^ w) (unN q w) (unN q w + 1) 1 := by
  refine ⟨by omega, by omega, ?_⟩
  have h2 : q.num.natAbs ≤ q.den := (unit_num h0 h1).1
  have : unN q w ≤ 2 ^ w := (Nat.div_le_iff_le_mul q.den_pos).2 (by
    have := Nat.mul_le_mul_right (2 ^ w) h2
    have := q.den_pos
    rw [Nat.mul_comm (2 ^ w)]; omega)
  omega
theorem okS_pw {q : Rat} {A w : Nat} (h0 : 0 ≤ q) (h1 : q ≤ 1) (hw : 20 ≤ w) : okS (2 ^ w) (pwN q A w).1 (pwN q A w).2 511 := by
  have hP : 1000000 ≤ 2 ^ w := Nat.le_trans (by decide) (Nat.pow_le_pow_right (n := 2) (by omega) hw)
  exact powGo_ok hP 4 A _ _ _ _ 1 (by decide) ⟨by omega, by omega, by omega⟩ (okS_un h0 h1)
theorem okS_len {a b e w : Nat} (h : okS (2 ^ w) a b e) (he : e ≤ 100000) (hw : w ≤ 900) (hw0 : 20 ≤ w) : (lim a).length ≤ 40 ∧ (lim b).length ≤ 40 := by
  have hP : 1000000 ≤ 2 ^ w := Nat.le_trans (by decide) (Nat.pow_le_pow_right (n := 2) (by omega) hw0)
  have h2 : 2 ^ (w + 1) = 2 ^ w * 2 := Nat.pow_succ _ _
  exact ⟨lim_len_p2 (w := w + 1) (by have := h.1; have := h.2.2; omega) (by omega), lim_len_p2 (w := w + 1) (by have := h.2.2; omega) (by omega)⟩
theorem incb_first {x : Rat} {A B w L : Nat} (hA : 1 ≤ A) (hB : 1 ≤ B) (hAB : A + B ≤ 10) (hz : szR x L) (hL1 : 1 ≤ L) (hL : L ≤ 3) (h0 : 0 ≤ x) (h1 : x ≤ 1) (hw : w ≤ 900) (hw0 : 20 ≤ w) :
    Go.Ev.Fn CX 101 [.int .i64 (2 * (A : Int)), .int .i64 (2 * (B : Int)), rv x, .int .i64 (w : Int)] (spanV (fsN x A B w).1 (fsN x A B w).2) := by
  have p1 := incb_power (A := A) (w := w) (by omega) hz (by omega) hw (by omega)
  have i1 := rat_Int 1 (by omega)
  have sb := rat_Sub (RatA_rv (int_szR (n := 1) (by omega))) (RatA_rv hz) (by omega) hL1 (by omega)
  have zy := szR_sub (int_szR (n := 1) (by omega)) hz (by omega)
  rw [show (((1 : Int) : Rat) - x) = 1 - x from rfl] at sb zy
  have p2 := incb_power (A := B) (w := w) (by omega) zy (by omega) hw (by omega)
  have k1 := okS_pw (A := A) (w := w) h0 h1 hw0
  have k2 := okS_pw (q := 1 - x) (A := B) (w := w) (by grind) (by grind) hw0
  obtain ⟨a1, a2⟩ := okS_len k1 (by omega) hw hw0
  obtain ⟨b1, b2⟩ := okS_len k2 (by omega) hw hw0
  have mu := fix_Mul (a := (pwN x A w).1) (b := (pwN x A w).2) (c := (pwN (1 - x) B w).1) (d := (pwN (1 - x) B w).2) (w := w) (by omega) (by omega) (by omega) (by omega) (by omega) (by omega)
  have hP : 1000000 ≤ 2 ^ w := Nat.le_trans (by decide) (Nat.pow_le_pow_right (n := 2) (by omega) hw0)
  have k3 := okS_mul hP (by omega) (by omega) k1 k2
  obtain ⟨c1, c2⟩ := okS_len k3 (by omega) hw hw0
  have be := gam_Beta (2 * A) (2 * B) (by omega) (by omega) (by omega) (by omega)
  rw [show 2 * A % 2 * (2 * B % 2) = 0 by rw [show 2 * A % 2 = 0 by omega, Nat.zero_mul], show ((2 * A : Nat) : Int) = 2 * (A : Int) by omega, show ((2 * B : Nat) : Int) = 2 * (B : Int) by omega] at be
  obtain ⟨e1, e2, e3⟩ := beta_ok hA hB hAB
  obtain ⟨z1, z2⟩ := beta2_size (a := 2 * A) (b := 2 * B) (by omega) (by omega)
  have o2 := nat_Of 2 (by omega)
  have oa := nat_Of (2 * A) (by omega)
  rw [show ((2 * A : Nat) : Int) = 2 * (A : Int) by omega] at oa
  have l2 : (lim 2).length ≤ 1 := lim_len_one (by decide)
  have la : (lim (2 * A)).length ≤ 1 := lim_len_one (by omega)
  have m1 := nat_MulL (N := (beta2 (2 * A) (2 * B)).den) (D := 2) (by omega) (by omega)
  have m2 := nat_MulL (N := (beta2 (2 * A) (2 * B)).num.natAbs) (D := 2 * A) (by omega) (by omega)
  have lm1 := lim_len_mul (a := (beta2 (2 * A) (2 * B)).den) (b := 2)
  have lm2 := lim_len_mul (a := (beta2 (2 * A) (2 * B)).num.natAbs) (b := 2 * A)
  have ti := fix_Times (a := (pwN x A w).1 * (pwN (1 - x) B w).1 / 2 ^ w) (b := (pwN x A w).2 * (pwN (1 - x) B w).2 / 2 ^ w + 1) (n := (beta2 (2 * A) (2 * B)).den * 2) (d := (beta2 (2 * A) (2 * B)).num.natAbs * (2 * A)) (by omega) (by omega) (by omega) (by omega) (by omega)
  have q1 : (pwN x A w).1 * (pwN (1 - x) B w).1 / 2 ^ w * ((beta2 (2 * A) (2 * B)).den * 2) / ((beta2 (2 * A) (2 * B)).num.natAbs * (2 * A)) = (fsN x A B w).1 := by
    rw [e1, ← Nat.mul_assoc, Nat.mul_div_cancel _ e2]
  have q2 : ((pwN x A w).2 * (pwN (1 - x) B w).2 / 2 ^ w + 1) * ((beta2 (2 * A) (2 * B)).den * 2) / ((beta2 (2 * A) (2 * B)).num.natAbs * (2 * A)) + 1 = (fsN x A B w).2 := by
    rw [e1, ← Nat.mul_assoc, Nat.mul_div_cancel _ e2]
  rw [q1, q2] at ti
  clear q1 q2 e1 e2 e3
  generalize (fsN x A B w).1 = F1 at *
  generalize (fsN x A B w).2 = F2 at *
  generalize (pwN x A w).1 * (pwN (1 - x) B w).1 / 2 ^ w = M1 at *
  generalize (pwN x A w).2 * (pwN (1 - x) B w).2 / 2 ^ w + 1 = M2 at *
  generalize (pwN x A w).1 = X1 at *
  generalize (pwN x A w).2 = X2 at *
  generalize (pwN (1 - x) B w).1 = Y1 at *
  generalize (pwN (1 - x) B w).2 = Y2 at *
  generalize (beta2 (2 * A) (2 * B)).den * 2 = D2 at *
  generalize (beta2 (2 * A) (2 * B)).num.natAbs * (2 * A) = N2 at *
  generalize beta2 (2 * A) (2 * B) = be2 at *
  generalize 1 - x = y at *
  refine Go.Ev.Fn.intro (fn := Tryz.f101) (body := (Tryz.f101).body.get!) (by kernel_rfl) (by kernel_rfl) (by kernel_rfl) (fun _ => rfl) (Nat.le_of_ble_eq_true (by kernel_rfl)) ?_; unfold Tryz.f101; simp only [Option.get!_some]
  repeat (first | (simp only [go_sem, Nat.reduceEqDiff, Nat.reduceAdd, Nat.reduceSub, Nat.reduceMul, Nat.reduceLeDiff, Nat.reduceLT, reduceIte, reduceCtorEq, Nat.succ_ne_zero, elemsC, Int.reduceToNat, Nat.reducePow]) | (simp (disch := (first | omega | (simp only [AL, List.length_map]; omega))) only [AR, AL, ifT, ifF, take_all, List.length_cons, List.length_nil, Int.reduceToNat, Int.reducePow, Nat.reducePow]) | (refine wk_intro (by kernel_rfl) ?_) | (refine vp_draw (id := 1) (l := []) (by kernel_rfl) ?_) | (refine vp_draw (id := 3) (l := [34, 35, 38, 41, 36, 42]) (by kernel_rfl) ?_) | (refine vp_draw (id := 5) (l := []) (by kernel_rfl) ?_) | (refine vf_of (by first | exact p1 | exact i1 | exact sb | exact p2 | exact mu | exact be | exact o2 | exact m1 | exact oa | exact m2 | exact ti) ?_))
end Go.Proofs.YthbjgdmcnonofaaGreat

/- incb.row of whole numbers, in the evaluator. -/
namespace Go.Proofs.YthbjgdmcnonofaaGreat
set_option linter.unusedSimpArgs false
set_option linter.unusedVariables false
set_option maxRecDepth 8000
open Go.Ev
theorem num_den' (q : Rat) : q * (q.den : Rat) = (q.num : Rat) := by
  have h : mkRat q.num q.den * (q.den : Rat) = (q.num : Rat) := by
    rw [Rat.mkRat_eq_div]
    refine Rat.div_mul_cancel ?_
    have : (0 : Rat) < (q.den : Rat) := by exact_mod_cast q.den_pos
    grind
  rwa [Rat.mkRat_self] at h
section
variable {x : Rat} {A B w : Nat}
/-- The first term is not too great, and known well. -/
theorem fs_ok (hA : 1 ≤ A) (hB : 1 ≤ B) (hAB : A + B ≤ 10) (h0 : 0 ≤ x) (h1 : x ≤ 1) (hw0 : 60 ≤ w) : okK w (2 * B) (2 ^ (w + 9)) (2 ^ 54) 0 (fsN x A B w).1 (fsN x A B w).2 (fsN x A B w).1 (fsN x A B w).2 := by
  have k1 := okS_pw (A := A) (w := w) h0 h1 (by omega)
  have k2 := okS_pw (q := 1 - x) (A := B) (w := w) (by grind) (by grind) (by omega)
  have hP : 2 ^ 60 ≤ 2 ^ w := Nat.pow_le_pow_right (n := 2) (by omega) hw0
  have k3 := okS_mul (by omega) (by omega) (by omega) k1 k2
  obtain ⟨-, -, e3⟩ := beta_ok hA hB hAB
  have hp9 : 2 ^ (w + 9) = 2 ^ w * 512 := by rw [Nat.pow_add]
  obtain ⟨g1, g2, g3⟩ := k3
  unfold okK
  rw [Nat.zero_min, Nat.pow_zero, Nat.one_mul, Nat.one_mul]
  generalize hM1 : (pwN x A w).1 * (pwN (1 - x) B w).1 / 2 ^ w = M1 at *
  generalize hM2 : (pwN x A w).2 * (pwN (1 - x) B w).2 / 2 ^ w + 1 = M2 at *
  have f1 : (fsN x A B w).1 = M1 * cc (B - 1) A := by rw [← hM1]
  have f2 : (fsN x A B w).2 = M2 * cc (B - 1) A + 1 := by rw [← hM2]
  rw [f1, f2]
  generalize cc (B - 1) A = c at *
  have x1 := Nat.mul_le_mul_right c g1
  have x2 : M2 * c ≤ (M1 + 2046) * c := Nat.mul_le_mul_right c (by omega)
  have x3 : M2 * c ≤ (2 ^ w + 2046) * 128 := Nat.mul_le_mul (by omega) e3
  have x4 : 2046 * c ≤ 2046 * 128 := Nat.mul_le_mul_left _ e3
  rw [Nat.add_mul] at x2
  refine ⟨?_, ?_, ?_, ?_, ?_, ?_⟩ <;> omega
/-- The row of whole numbers ends. -/
theorem row_ends (hA : 1 ≤ A) (hB : 1 ≤ B) (hAB : A + B ≤ 10) (h0 : 0 ≤ x) (h1 : x + x ≤ 1) (hw0 : 60 ≤ w) (hw : w ≤ 400) : 200 ≤ 2 ^ w ∧ 2 * unN x w ≤ 2 ^ w ∧ ∃ a b K, rowGo w (unN x w) (unN x w + 1) (2 * A) (2 * B) 2201 0 (fsN x A B w).1 (fsN x A B w).2 (fsN x A B w).1 (fsN x A B w).2 = some (a, b, K) := by
  have hP : 2 ^ 60 ≤ 2 ^ w := Nat.pow_le_pow_right (n := 2) (by omega) hw0
  have hy : 2 * unN x w ≤ 2 ^ w := by
    have h2 : 2 * x.num.natAbs ≤ x.den := by
      have := num_den' x
      have d0 : (0 : Rat) < (x.den : Rat) := by exact_mod_cast x.den_pos
      have h3 := Rat.mul_le_mul_of_nonneg_right h1 (show (0 : Rat) ≤ (x.den : Rat) by grind)
      have h4 : (x.num : Rat) + (x.num : Rat) ≤ (x.den : Rat) := by grind
      have h5 : ((x.num + x.num : Int) : Rat) ≤ (((x.den : Nat) : Int) : Rat) := by rw [Rat.intCast_add]; exact h4
      have h6 := Rat.intCast_le_intCast.1 h5
      have h7 := Rat.num_nonneg.2 h0
      omega
    have h3 := Nat.div_mul_le_self (x.num.natAbs * 2 ^ w) x.den
    have h4 := Nat.mul_le_mul_right (2 ^ w) h2
    have h5 : 2 * unN x w * x.den ≤ 2 ^ w * x.den := by
      have e1 : 2 * unN x w * x.den = 2 * (x.num.natAbs * 2 ^ w / x.den * x.den) := by rw [Nat.mul_assoc]
      have e2 : 2 * x.num.natAbs * 2 ^ w = 2 * (x.num.natAbs * 2 ^ w) := by rw [Nat.mul_assoc]
      rw [Nat.mul_comm (2 ^ w)]
      omega
    exact Nat.le_of_mul_le_mul_right h5 x.den_pos
  refine ⟨by omega, hy, ?_⟩
  have ok := fs_ok hA hB hAB h0 (show x ≤ 1 by grind) hw0
  unfold okK at ok
  rw [Nat.zero_min, Nat.pow_zero, Nat.one_mul, Nat.one_mul] at ok
  have hp9 : 2 ^ (w + 9) = 2 ^ w * 512 := by rw [Nat.pow_add]
  have h40 : 4 ^ (2 * B) ≤ 4 ^ 18 := Nat.pow_le_pow_right (by omega) (by omega)
  have hC : 4 ^ (2 * B) * 2 ^ (w + 9) ≤ 2 ^ 49 * 2 ^ w := by
    rw [hp9, Nat.mul_comm (2 ^ w) 512, ← Nat.mul_assoc]
    exact Nat.mul_le_mul_right _ (Nat.le_trans (Nat.mul_le_mul_right 512 h40) (by decide))
  have hF : 4 ^ 2000 * (4 ^ (2 * B) * 2 ^ (w + 9)) < 8 * 5 ^ 2000 := by
    obtain ⟨E, hE⟩ : ∃ E : Nat, E = 449 := ⟨_, rfl⟩
    have h49 : 2 ^ 49 * 2 ^ w ≤ 2 ^ E := by rw [← Nat.pow_add]; exact Nat.pow_le_pow_right (by omega) (by omega)
    obtain ⟨N4, hN4⟩ : ∃ N, N = 4 ^ 2000 := ⟨_, rfl⟩
    obtain ⟨N5, hN5⟩ : ∃ N, N = 5 ^ 2000 := ⟨_, rfl⟩
    rw [← hN4, ← hN5]
    have hk : N4 * 2 ^ E < 8 * N5 := by rw [hN4, hN5, hE]; decide +kernel
    exact Nat.lt_of_le_of_lt (Nat.mul_le_mul_left _ (Nat.le_trans hC h49)) hk
  exact row_early (a := 2 * A) (b := 2 * B) (F := 2000) (C := 2 ^ 49) (by omega) rfl hy (by omega) (by omega) (2 * B) 0 _ _ _ _ _ _ (by omega) (by omega) hC (by decide) hF ok
set_option maxHeartbeats 1000000 in
theorem incb_row {L A' B' K : Nat} (hA : 1 ≤ A) (hB : 1 ≤ B) (hAB : A + B ≤ 10) (hz : szR x L) (hL1 : 1 ≤ L) (hL : L ≤ 3) (h0 : 0 ≤ x) (h1 : x + x ≤ 1) (hw0 : 60 ≤ w) (hw : w ≤ 400)
    (hg : rowGo w (unN x w) (unN x w + 1) (2 * A) (2 * B) 2201 0 (fsN x A B w).1 (fsN x A B w).2 (fsN x A B w).1 (fsN x A B w).2 = some (A', B', K)) :
    Go.Ev.Fn CX 52 [.int .i64 (2 * (A : Int)), .int .i64 (2 * (B : Int)), rv x, .int .i64 (w : Int)] (spanV A' B') := by
  obtain ⟨hP, hy, -⟩ := row_ends hA hB hAB h0 h1 hw0 hw
  have r : Go.Ev.Fn CX 100 [rv x, .int .i64 (w : Int)] (spanV (unN x w) (unN x w + 1)) := fix_Rat hz (by omega) (w := w) (by omega)
  obtain ⟨ly1, ly2⟩ := unN_len hz (by omega) (show w ≤ 900 by omega)
  have fi := incb_first (w := w) hA hB hAB hz hL1 hL h0 (show x ≤ 1 by grind) (by omega) (by omega)
  have ok := fs_ok hA hB hAB h0 (show x ≤ 1 by grind) hw0
  have hp9 : 2 ^ (w + 9) = 2 ^ w * 512 := by rw [Nat.pow_add]
  have h40 : 4 ^ (2 * B) ≤ 4 ^ 18 := Nat.pow_le_pow_right (by omega) (by omega)
  have hC : 4 ^ (2 * B) * 2 ^ (w + 9) ≤ 2 ^ 49 * 2 ^ w := by
    rw [hp9, Nat.mul_comm (2 ^ w) 512, ← Nat.mul_assoc]
    exact Nat.mul_le_mul_right _ (Nat.le_trans (Nat.mul_le_mul_right 512 h40) (by decide))
  have hC2 : 4 ^ (2 * B) * 2 ^ (w + 9) ≤ 2 ^ (w + 49) := by
    have e49 : 2 ^ (w + 49) = 2 ^ 49 * 2 ^ w := by rw [Nat.pow_add, Nat.mul_comm]
    rw [e49]; exact hC
  have step := fun (k t1 t2 a1 a2 : Nat) (h : okK w (2 * B) (2 ^ (w + 9)) (2 ^ 54) k t1 t2 a1 a2) => okK_step (a := 2 * A) (y1 := unN x w) (y2 := unN x w + 1) (C := 2 ^ 49) hP rfl hy (by omega) (by omega) (by omega) hC (by decide) h
  have lens := fun (k t1 t2 a1 a2 : Nat) (hk : k ≤ 2201) (h : okK w (2 * B) (2 ^ (w + 9)) (2 ^ 54) k t1 t2 a1 a2) => (show (lim t1).length ≤ 40 ∧ (lim t2).length ≤ 40 ∧ (lim a1).length ≤ 40 ∧ (lim a2).length ≤ 40 from by
    obtain ⟨q1, q2, q3, q4, q5, q6⟩ := h
    have f := (four_le (k := k) (b := 2 * B) (T := 2 ^ (w + 9))).2
    have b1 : (k + 1) * (4 ^ min k (2 * B) * 2 ^ (w + 9)) ≤ 4096 * 2 ^ (w + 49) := Nat.mul_le_mul (by omega) (Nat.le_trans f hC2)
    have b2 : 4096 * 2 ^ (w + 49) = 2 ^ (w + 61) := by rw [show w + 61 = 12 + (w + 49) by omega, Nat.pow_add 2 12]
    have b3 : 2 ^ (w + 49) ≤ 2 ^ (w + 61) := Nat.pow_le_pow_right (by omega) (by omega)
    exact ⟨lim_len_p2 (w := w + 61) (by omega) (by omega), lim_len_p2 (w := w + 61) (by omega) (by omega), lim_len_p2 (w := w + 61) (by omega) (by omega), lim_len_p2 (w := w + 61) (by omega) (by omega)⟩)
  generalize (fsN x A B w).1 = F1 at *
  generalize (fsN x A B w).2 = F2 at *
  generalize unN x w = y1 at *
  clear hz h0 h1
  refine Go.Ev.Fn.intro (fn := Tryz.f52) (body := (Tryz.f52).body.get!) (by kernel_rfl) (by kernel_rfl) (by kernel_rfl) (fun _ => rfl) (Nat.le_of_ble_eq_true (by kernel_rfl)) ?_; unfold Tryz.f52; simp only [Option.get!_some]
  repeat (first | (simp only [go_sem, Nat.reduceEqDiff, Nat.reduceAdd, Nat.reduceSub, Nat.reduceMul, Nat.reduceLeDiff, Nat.reduceLT, reduceIte, reduceCtorEq, Nat.succ_ne_zero, elemsC, Int.reduceToNat, Nat.reducePow]) | (simp (disch := (first | omega | (simp only [AL, List.length_map]; omega))) only [AR, AL, ifT, ifF, take_all, List.length_cons, List.length_nil, Int.reduceToNat, Int.reducePow, Nat.reducePow]) | (refine wk_intro (by kernel_rfl) ?_) | (refine vf_of (by first | exact r | exact fi) ?_))
  refine vp_loop_inv (fun s => s.tmp 0 = .sv (.int .i64 (2 * (A : Int))) ∧ s.tmp 1 = .sv (.int .i64 (2 * (B : Int))) ∧ s.tmp 3 = .sv (.int .i64 (w : Int)) ∧ s.tmp 8 = .ptr 8 0 0 ∧ s.obj 8 0 = some [.sl 0 [], .sl 0 []] ∧ s.tmp 9 = .ptr 9 0 0 ∧ s.obj 9 0 = some [natV (lim y1), natV (lim (y1 + 1))] ∧ s.tmp 10 = .ptr 10 0 0 ∧ s.tmp 11 = .ptr 11 0 0 ∧
      ∃ f k t1 t2 a1 a2 : Nat, s.tmp 12 = .sv (.int .i64 (k : Int)) ∧ f + k = 2201 ∧ rowGo w y1 (y1 + 1) (2 * A) (2 * B) f k t1 t2 a1 a2 = some (A', B', K) ∧ s.obj 10 0 = some [natV (lim t1), natV (lim t2)] ∧ s.obj 11 0 = some [natV (lim a1), natV (lim a2)] ∧
        okK w (2 * B) (2 ^ (w + 9)) (2 ^ 54) k t1 t2 a1 a2)
    (fun s => match s.tmp 12 with | .sv (.int _ i) => 2202 - i.toNat | _ => 0) ⟨rfl, rfl, rfl, rfl, rfl, rfl, rfl, rfl, rfl, 2201, 0, F1, F2, F1, F2, rfl, rfl, hg, rfl, rfl, ok⟩ ?_
  rintro s ⟨i0, i1, i3, i8, o8, i9, o9, i10, i11, f, k, t1, t2, a1, a2, i12, hfk, hgo, o10, o11, hok⟩
  obtain ⟨lt1, lt2, la1, la2⟩ := lens k t1 t2 a1 a2 (by omega) hok
  have st := step k t1 t2 a1 a2 hok
  have sm := fix_Small (a := t1) (b := t2) (by omega) (k := 3) (by omega)
  cases f with
  | zero => simp only [rowGo] at hgo; cases hgo
  | succ f =>
    rw [rowGo] at hgo
    by_cases hs : 2 * B ≤ k ∧ t2 < 8
    · rw [if_pos hs] at hgo
      simp only [Option.some.injEq, Prod.mk.injEq] at hgo
      obtain ⟨rfl, rfl, rfl⟩ := hgo
      rw [decide_eq_true (show t2 < 2 ^ 3 from hs.2)] at sm
      have hs1 := hs.1
      have wd := fix_Wider (a := a1) (b := a2) (n := 64) (by omega) (by omega) (by omega)
      clear step lens st hs hg
      repeat (first | (simp only [go_sem, Nat.reduceEqDiff, Nat.reduceAdd, Nat.reduceSub, Nat.reduceMul, Nat.reduceLeDiff, Nat.reduceLT, reduceIte, reduceCtorEq, Nat.succ_ne_zero, elemsC, Int.reduceToNat, Nat.reducePow, i0, i1, i3, i8, o8, i9, o9, i10, i11, i12, o10, o11, Bool.not_true]) | (simp (disch := (first | omega | (simp only [AL, List.length_map]; omega))) only [AR, AL, ifT, ifF, take_all, List.length_cons, List.length_nil, Int.reduceToNat, Int.reducePow, Nat.reducePow, i0, i1, i3, i8, o8, i9, o9, i10, i11, i12, o10, o11, Bool.not_true]) | (refine wk_intro (by kernel_rfl) ?_) | (refine vf_of (by first | exact sm | exact wd) ?_))
    · rw [if_neg hs] at hgo
      obtain ⟨lu1, lu2, lb1, lb2⟩ := lens (k + 1) _ _ _ _ (by omega) st
      have mu := fix_Mul (a := t1) (b := t2) (c := y1) (d := y1 + 1) (w := w) (by omega) (by omega) (by omega) (by omega) (by omega) (by omega)
      have q1 := nat_Of (2 * A + 2 * B + 2 * k) (by omega)
      have q2 := nat_Of (2 * A + 2 + 2 * k) (by omega)
      have lq1 : (lim (2 * A + 2 * B + 2 * k)).length ≤ 1 := lim_len_one (by omega)
      have lq2 : (lim (2 * A + 2 + 2 * k)).length ≤ 1 := lim_len_one (by omega)
      have z1 := lim_len_mul (a := t1) (b := y1)
      have z2 := lim_len_mul (a := t2) (b := y1 + 1)
      have z3 := lim_len_mono (Nat.div_le_self (t1 * y1) (2 ^ w))
      have l1 := lim_len1
      have z4 := lim_len_add (a := t2 * (y1 + 1) / 2 ^ w) (b := 1) (L := 200) (Nat.le_trans (lim_len_mono (Nat.div_le_self (t2 * (y1 + 1)) (2 ^ w))) (by omega)) (by omega)
      have ti := fix_Times (a := t1 * y1 / 2 ^ w) (b := t2 * (y1 + 1) / 2 ^ w + 1) (n := 2 * A + 2 * B + 2 * k) (d := 2 * A + 2 + 2 * k) (by omega) (by omega) (by omega) (by omega) (by omega)
      rw [show ((2 * A + 2 * B + 2 * k : Nat) : Int) = 2 * (A : Int) + 2 * (B : Int) + 2 * (k : Int) by omega] at q1
      rw [show ((2 * A + 2 + 2 * k : Nat) : Int) = 2 * (A : Int) + 2 + 2 * (k : Int) by omega] at q2
      generalize t1 * y1 / 2 ^ w * (2 * A + 2 * B + 2 * k) / (2 * A + 2 + 2 * k) = u1 at *
      generalize (t2 * (y1 + 1) / 2 ^ w + 1) * (2 * A + 2 * B + 2 * k) / (2 * A + 2 + 2 * k) + 1 = u2 at *
      generalize t1 * y1 / 2 ^ w = v1 at *
      generalize t2 * (y1 + 1) / 2 ^ w + 1 = v2 at *
      have ad := fix_Add (a := a1) (b := a2) (c := u1) (d := u2) (by omega) (by omega) (by omega) (by omega)
      clear step lens hg
      by_cases hk : 2 * B ≤ k
      · rw [decide_eq_false (show ¬ t2 < 2 ^ 3 from fun h => hs ⟨hk, h⟩)] at sm
        repeat (first | (simp only [go_sem, Nat.reduceEqDiff, Nat.reduceAdd, Nat.reduceSub, Nat.reduceMul, Nat.reduceLeDiff, Nat.reduceLT, reduceIte, reduceCtorEq, Nat.succ_ne_zero, elemsC, Int.reduceToNat, Nat.reducePow, i0, i1, i3, i8, o8, i9, o9, i10, i11, i12, o10, o11, Bool.not_false]) | (simp (disch := (first | omega | (simp only [AL, List.length_map]; omega))) only [AR, AL, ifT, ifF, take_all, List.length_cons, List.length_nil, Int.reduceToNat, Int.reducePow, Nat.reducePow, i0, i1, i3, i8, o8, i9, o9, i10, i11, i12, o10, o11, Bool.not_false]) | (refine wk_intro (by kernel_rfl) ?_) | (refine vf_of (by first | exact sm | exact mu | exact q1 | exact q2 | exact ti | exact ad) ?_))
        exact ⟨⟨f, k + 1, u1, u2, a1 + u1, a2 + u2, rfl, by omega, hgo, rfl, rfl, st⟩, by omega⟩
      · repeat (first | (simp only [go_sem, Nat.reduceEqDiff, Nat.reduceAdd, Nat.reduceSub, Nat.reduceMul, Nat.reduceLeDiff, Nat.reduceLT, reduceIte, reduceCtorEq, Nat.succ_ne_zero, elemsC, Int.reduceToNat, Nat.reducePow, i0, i1, i3, i8, o8, i9, o9, i10, i11, i12, o10, o11]) | (simp (disch := (first | omega | (simp only [AL, List.length_map]; omega))) only [AR, AL, ifT, ifF, take_all, List.length_cons, List.length_nil, Int.reduceToNat, Int.reducePow, Nat.reducePow, i0, i1, i3, i8, o8, i9, o9, i10, i11, i12, o10, o11]) | (refine wk_intro (by kernel_rfl) ?_))
        repeat (first | (simp only [go_sem, Nat.reduceEqDiff, Nat.reduceAdd, Nat.reduceSub, Nat.reduceMul, Nat.reduceLeDiff, Nat.reduceLT, reduceIte, reduceCtorEq, Nat.succ_ne_zero, elemsC, Int.reduceToNat, Nat.reducePow, i0, i1, i3, i8, o8, i9, o9, i10, i11, i12, o10, o11]) | (simp (disch := (first | omega | (simp only [AL, List.length_map]; omega))) only [AR, AL, ifT, ifF, take_all, List.length_cons, List.length_nil, Int.reduceToNat, Int.reducePow, Nat.reducePow, i0, i1, i3, i8, o8, i9, o9, i10, i11, i12, o10, o11]) | (refine wk_intro (by kernel_rfl) ?_) | (refine vf_of (by first | exact mu | exact q1 | exact q2 | exact ti | exact ad) ?_))
        exact ⟨⟨f, k + 1, u1, u2, a1 + u1, a2 + u2, rfl, by omega, hgo, rfl, rfl, st⟩, by omega⟩
end
end Go.Proofs.YthbjgdmcnonofaaGreat
