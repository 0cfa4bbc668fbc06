/- Part 10 of the proof: the evaluator, contracts of functions and their plain laws (joined by program). No condition. -/
import Derived.Test.YtecjelnpmcnbaaaGreatPart9
set_option linter.unusedVariables false
set_option linter.unusedSimpArgs false
set_option maxRecDepth 100000
namespace Go.Proofs.YtecjelnpmcnbaaaGreat
open Go.Ev
abbrev ivN (a b : Nat) : SV := .agg [.bool false, natV (lim a), .bool false, natV (lim b)]
abbrev intN (a : Nat) : SV := .agg [.bool false, natV (lim a)]
theorem intN_eq (n : Nat) : intV (n : Int) = intN n := iv_eq (Int.natAbs_natCast n) (decide_eq_false (by omega))
theorem ivN_eq (m n : Nat) : ivV (m : Int) (n : Int) = ivN m n := by
  show SV.agg [.bool (decide ((m : Int) < 0)), natV (lim (m : Int).natAbs), .bool (decide ((n : Int) < 0)), natV (lim (n : Int).natAbs)] = _
  rw [Int.natAbs_natCast, Int.natAbs_natCast, decide_eq_false (by omega), decide_eq_false (by omega)]
theorem cdv_le {a b c : Nat} (hb : 0 < b) (h : a ≤ c * b) : cdv a b ≤ c := by
  unfold cdv
  rw [Nat.div_le_iff_le_mul hb]
  omega
theorem div_le_cdv {a b d : Nat} (hd : 0 < d) (h : a ≤ b) : a / d ≤ cdv b d := by
  unfold cdv
  exact Nat.div_le_div_right (by omega)
theorem cdZ_nat {n d : Nat} (hd : 0 < d) : cdZ (n : Int) d = (cdv n d : Int) := by
  unfold cdZ cdv
  rw [fall_eq (a := -(n : Int)) (by omega), Int.natAbs_neg, Int.natAbs_natCast]
  have hm := Nat.div_add_mod n d
  have hl := Nat.mod_lt n hd
  by_cases h0 : n % d = 0
  · rw [if_neg (fun h => h.2 h0)]
    have e : (n + d - 1) / d = n / d := by
      rw [show n + d - 1 = (d - 1) + d * (n / d) by omega, Nat.add_mul_div_left _ _ hd, Nat.div_eq_of_lt (by omega), Nat.zero_add]
    rw [e]
    by_cases hn : n = 0
    · subst hn; simp [sgn]
    · rw [decide_eq_true (by omega)]
      show -(-((n / d : Nat) : Int)) = _
      omega
  · have hn : n ≠ 0 := by rintro rfl; simp at h0
    rw [if_pos ⟨by omega, h0⟩]
    have e : (n + d - 1) / d = n / d + 1 := by
      rw [show n + d - 1 = (n % d - 1) + d * (n / d + 1) by rw [Nat.mul_add]; omega, Nat.add_mul_div_left _ _ hd, Nat.div_eq_of_lt (by omega), Nat.zero_add]
    rw [e]
    omega
theorem loQ_nat {a b c d : Nat} (h1 : a ≤ b) (h2 : c ≤ d) : loQ a b c d = ((a * c : Nat) : Int) := by
  have e1 : a * c ≤ a * d := Nat.mul_le_mul_left _ h2
  have e2 : a * c ≤ b * c := Nat.mul_le_mul_right _ h1
  have e3 : a * c ≤ b * d := Nat.mul_le_mul h1 h2
  unfold loQ loP mnZ
  rw [← Int.natCast_mul, ← Int.natCast_mul, ← Int.natCast_mul, ← Int.natCast_mul]
  rw [if_neg (show ¬ ((a * d : Nat) : Int) < ((a * c : Nat) : Int) by omega), if_neg (show ¬ ((b * c : Nat) : Int) < ((a * c : Nat) : Int) by omega), if_neg (by omega)]
  rfl
theorem hiQ_nat {a b c d : Nat} (h1 : a ≤ b) (h2 : c ≤ d) : hiQ a b c d = ((b * d : Nat) : Int) := by
  have e1 : a * c ≤ a * d := Nat.mul_le_mul_left _ h2
  have e2 : a * c ≤ b * c := Nat.mul_le_mul_right _ h1
  have e3 : b * c ≤ b * d := Nat.mul_le_mul_left _ h2
  have e4 : a * d ≤ b * d := Nat.mul_le_mul_right _ h1
  unfold hiQ hiP mxZ
  rw [← Int.natCast_mul, ← Int.natCast_mul, ← Int.natCast_mul, ← Int.natCast_mul]
  repeat' split
  all_goals omega
theorem ref4_ProdN {a b c d w : Nat} (h1 : a ≤ b) (h2 : c ≤ d) (hb : (lim b).length ≤ 10000) (hd : (lim d).length ≤ 10000) (hw : w ≤ 4096) (h0 : 0 < w) :
    Go.Ev.Fn CX 136 [ivN a b, ivN c d, .int .i64 (w : Int)] (ivN (a * c / 2 ^ w) (cdv (b * d) (2 ^ w))) := by
  have la := lim_len_mono h1
  have lc := lim_len_mono h2
  have h := ref4_Prod (a := (a : Int)) (b := (b : Int)) (c := (c : Int)) (d := (d : Int)) (w := w) (by rw [Int.natAbs_natCast]; omega) (by rw [Int.natAbs_natCast]; omega) (by rw [Int.natAbs_natCast]; omega) (by rw [Int.natAbs_natCast]; omega) hw h0
  rw [loQ_nat h1 h2, hiQ_nat h1 h2, cdZ_nat (Nat.pow_pos (by omega)), ← Int.natCast_ediv, ivN_eq, ivN_eq, ivN_eq] at h
  exact h
theorem ref4_ByN {a b n : Nat} (ha : (lim a).length ≤ 100000) (hb : (lim b).length ≤ 100000) (h0 : 0 < n) (hn : n < 9223372036854775808) : Go.Ev.Fn CX 172 [ivN a b, .int .i64 (n : Int)] (ivN (a / n) (cdv b n)) := by
  have h := ref4_By (a := (a : Int)) (b := (b : Int)) (by rw [Int.natAbs_natCast]; omega) (by rw [Int.natAbs_natCast]; omega) n h0 hn
  rw [cdZ_nat h0, ← Int.natCast_ediv, ivN_eq, ivN_eq] at h
  exact h
theorem ref4_MinusN {x y : Int} {c d : Nat} (hx : (lim x.natAbs).length ≤ 100000) (hy : (lim y.natAbs).length ≤ 100000) (hc : (lim c).length ≤ 100000) (hd : (lim d).length ≤ 100000) : Go.Ev.Fn CX 100 [ivV x y, ivN c d] (ivV (x - d) (y - c)) := by
  have h := ref4_Minus (c := (c : Int)) (d := (d : Int)) hx hy (by rw [Int.natAbs_natCast]; omega) (by rw [Int.natAbs_natCast]; omega)
  rw [ivN_eq] at h
  exact h
theorem ref4_SumN {x y : Int} {c d : Nat} (hx : (lim x.natAbs).length ≤ 100000) (hy : (lim y.natAbs).length ≤ 100000) (hc : (lim c).length ≤ 100000) (hd : (lim d).length ≤ 100000) : Go.Ev.Fn CX 86 [ivV x y, ivN c d] (ivV (x + c) (y + d)) := by
  have h := ref4_Sum (c := (c : Int)) (d := (d : Int)) hx hy (by rw [Int.natAbs_natCast]; omega) (by rw [Int.natAbs_natCast]; omega)
  rw [ivN_eq] at h
  exact h
theorem ref4_MostN {a b : Nat} (h1 : a ≤ b) (hb : (lim b).length ≤ 100000) : Go.Ev.Fn CX 176 [ivN a b] (intN b) := by
  have la := lim_len_mono h1
  have h := ref4_Most (a := (a : Int)) (b := (b : Int)) (by rw [Int.natAbs_natCast]; omega) (by rw [Int.natAbs_natCast]; omega)
  rw [Int.natAbs_natCast, Int.natAbs_natCast, Nat.max_eq_right h1, ivN_eq, intN_eq] at h
  exact h
theorem ref4_CmpN {a b : Nat} (ha : (lim a).length ≤ 100000) (hb : (lim b).length ≤ 100000) : Go.Ev.Fn CX 175 [intN a, intN b] (.int .i64 (cmpZ a b)) := by
  have h := ref4_Cmp (a : Int) (b : Int) (by rw [Int.natAbs_natCast]; omega) (by rw [Int.natAbs_natCast]; omega)
  rw [intN_eq, intN_eq] at h
  exact h
section
variable {w s1 s2 : Nat}
set_option maxHeartbeats 1000000 in
theorem ref8_small {v : SV} {q : Rat} {d A B : Nat} (hv : RatA v q 2) (hq : q.num = 1) (hd : q.den = d) (hdd : 0 < d) (hw : w ≤ 900) (hw0 : 0 < w) (hs : smF d w = some (A, B)) :
    Go.Ev.Fn CX 181 [v, .int .i64 (w : Int)] (ivN A B) := by
  have nm := ref4_Num hv (w := w) (by omega) (by omega) (by omega)
  rw [hq, hd, Int.one_mul, cdZ_nat hdd, ← Int.natCast_ediv, ivN_eq] at nm
  unfold smF at hs
  rw [pin_eq, pin_eq, pin_eq, pin_eq] at hs
  have hP : 0 < 2 ^ w := Nat.pow_pos (by omega)
  have y2T : cdv (2 ^ w) d ≤ 2 ^ w := cdv_le hdd (Nat.le_mul_of_pos_right _ hdd)
  have y12 : 2 ^ w / d ≤ cdv (2 ^ w) d := by
    unfold cdv
    exact Nat.div_le_div_right (by omega)
  generalize 2 ^ w / d = y1 at *
  generalize cdv (2 ^ w) d = y2 at *
  have ly2 := lim_len_p2 y2T (by omega)
  have ps := ref4_ProdN (a := y1) (b := y2) (c := y1) (d := y2) (w := w) y12 y12 (by omega) (by omega) (by omega) hw0
  have s2T : cdv (y2 * y2) (2 ^ w) ≤ 2 ^ w := cdv_le hP (Nat.mul_le_mul y2T y2T)
  have s12 : y1 * y1 / 2 ^ w ≤ cdv (y2 * y2) (2 ^ w) := by
    unfold cdv
    refine Nat.div_le_div_right ?_
    have := Nat.mul_le_mul y12 y12
    omega
  generalize y1 * y1 / 2 ^ w = s1 at *
  generalize cdv (y2 * y2) (2 ^ w) = s2 at *
  have ls2 := lim_len_p2 s2T (by omega)
  split at hs
  · rename_i A1 A2 B1 B2 hgo
    by_cases hfin : B2 + 4 ≤ A1 ∧ B1 ≤ A2
    · rw [if_pos hfin] at hs
      obtain ⟨rfl, rfl⟩ : A1 - B2 - 4 = A ∧ A2 - B1 + 4 = B := by simpa using hs
      clear hs
      have w2 := ref4_Whole 2 (by omega)
      rw [show (2 : Int) = ((2 : Nat) : Int) from rfl, intN_eq] at w2
      have l2 : (lim 2).length ≤ 1 := lim_len_one (by decide)
      obtain ⟨s0, n0, d0, rfl, -⟩ := hv
      refine Go.Ev.Fn.intro (fn := Tryz.f181) (body := (Tryz.f181).body.get!) (by kernel_rfl) (by kernel_rfl) (by kernel_rfl) (fun _ => rfl) (Nat.le_of_ble_eq_true (by kernel_rfl)) ?_; unfold Tryz.f181; simp only [Option.get!_some]
      repeat (first | (simp only [go_sem, Nat.reduceEqDiff, Nat.reduceAdd, Nat.reduceSub, Nat.reduceMul, Nat.reduceLeDiff, Nat.reduceLT, reduceIte, reduceCtorEq, Nat.succ_ne_zero, elemsC, Int.reduceToNat, Nat.reducePow]) | (simp (disch := (first | omega | (simp only [AL, List.length_map]; omega))) only [AR, AL, ifT, ifF, take_all, List.length_cons, List.length_nil, Int.reduceToNat, Int.reducePow, Nat.reducePow]) | (refine wk_intro (by kernel_rfl) ?_) | (refine vp_draw (id := 3) (l := []) (by kernel_rfl) ?_) | (refine vf_of (by first | exact nm | exact ps) ?_))
      refine vp_loop_inv (fun s => s.tmp 1 = .sv (.int .i64 (w : Int)) ∧ s.tmp 4 = .ptr 4 0 0 ∧ s.obj 4 0 = some [.bool false, .sl 0 [], .bool false, .sl 0 []] ∧ s.tmp 6 = .ptr 6 0 0 ∧ s.obj 6 0 = some [.bool false, natV (lim s1), .bool false, natV (lim s2)] ∧ s.tmp 7 = .ptr 7 0 0 ∧ s.tmp 8 = .ptr 8 0 0 ∧
          ∃ (f i t1 t2 a1 a2 b1 b2 : Nat) (x y : Int), s.tmp 9 = .sv (.int .i64 (i : Int)) ∧ f + i = 1001 ∧ 1 ≤ i ∧ smGo w s1 s2 f i (decide (i % 2 = 1)) t1 t2 a1 a2 b1 b2 = some (A1, A2, B1, B2) ∧
            s.obj 8 0 = some [.bool false, natV (lim t1), .bool false, natV (lim t2)] ∧ s.obj 7 0 = some [.bool (decide (x < 0)), natV (lim x.natAbs), .bool (decide (y < 0)), natV (lim y.natAbs)] ∧
            x = (a1 : Int) - b2 ∧ y = (a2 : Int) - b1 ∧ t1 ≤ t2 ∧ t2 ≤ 2 ^ w ∧ a1 ≤ i * 2 ^ w ∧ a2 ≤ i * 2 ^ w ∧ b1 ≤ i * 2 ^ w ∧ b2 ≤ i * 2 ^ w)
        (fun s => match s.tmp 9 with | .sv (.int _ i) => 1002 - i.toNat | _ => 0) ⟨rfl, rfl, rfl, rfl, rfl, rfl, rfl, 1000, 1, y1, y2, y1, y2, 0, 0, (y1 : Int), (y2 : Int), rfl, rfl, by omega, hgo, rfl, ?_, by omega, by omega, y12, y2T, by omega, by omega, by omega, by omega⟩ ?_
      · rw [show decide ((y1 : Int) < 0) = false from decide_eq_false (by omega), show decide ((y2 : Int) < 0) = false from decide_eq_false (by omega), Int.natAbs_natCast, Int.natAbs_natCast]
        rfl
      rintro s ⟨i1, i4, o4, i6, o6, i7, i8, f, i, t1, t2, a1, a2, b1, b2, x, y, i9, hfi, hi, hg, o8, o7, hx, hy, g1, g2, g3, g4, g5, g6⟩
      cases f with
      | zero => simp only [smGo] at hg; cases hg
      | succ f =>
        have lt2 := lim_len_p2 g2 (by omega)
        have pp := ref4_ProdN (a := t1) (b := t2) (c := s1) (d := s2) (w := w) g1 s12 (by omega) (by omega) (by omega) hw0
        have u2t : cdv (t2 * s2) (2 ^ w) ≤ t2 := cdv_le hP (Nat.mul_le_mul_left _ s2T)
        have u12 : t1 * s1 / 2 ^ w ≤ cdv (t2 * s2) (2 ^ w) := by
          unfold cdv
          refine Nat.div_le_div_right ?_
          have := Nat.mul_le_mul g1 s12
          omega
        have hbig : i * 2 ^ w ≤ 2 ^ (w + 10) := by
          rw [Nat.pow_add, Nat.mul_comm (2 ^ w)]
          exact Nat.mul_le_mul_right _ (by omega)
        have hpl : (i + 1) * 2 ^ w = i * 2 ^ w + 2 ^ w := by rw [Nat.add_mul, Nat.one_mul]
        have hi2 : 2 ^ w ≤ i * 2 ^ w := Nat.le_mul_of_pos_left _ (by omega)
        have big2 : i * 2 ^ w + i * 2 ^ w ≤ 2 ^ (w + 11) := by rw [show w + 11 = w + 10 + 1 by omega, Nat.pow_succ]; omega
        have nz : 2 * i + 1 ≠ 0 := by omega
        have by1 := ref4_ByN (a := t1 * s1 / 2 ^ w) (b := cdv (t2 * s2) (2 ^ w)) (n := 2 * i + 1) (Nat.le_trans (lim_len_mono (Nat.le_trans u12 u2t)) (by omega)) (Nat.le_trans (lim_len_mono u2t) (by omega)) (by omega) (by omega)
        have x2u : cdv (cdv (t2 * s2) (2 ^ w)) (2 * i + 1) ≤ cdv (t2 * s2) (2 ^ w) := cdv_le (by omega) (Nat.le_mul_of_pos_right _ (by omega))
        have x12 : t1 * s1 / 2 ^ w / (2 * i + 1) ≤ cdv (cdv (t2 * s2) (2 ^ w)) (2 * i + 1) := div_le_cdv (by omega) u12
        have mo := ref4_MostN (a := t1 * s1 / 2 ^ w) (b := cdv (t2 * s2) (2 ^ w)) u12 (Nat.le_trans (lim_len_mono u2t) (by omega))
        have cc := ref4_CmpN (a := cdv (t2 * s2) (2 ^ w)) (b := 2) (Nat.le_trans (lim_len_mono u2t) (by omega)) (by omega)
        have ec : decide (cmpZ ((cdv (t2 * s2) (2 ^ w) : Nat) : Int) ((2 : Nat) : Int) ≤ 0) = decide (cdv (t2 * s2) (2 ^ w) ≤ 2) := by rw [cmpZ_le]; exact decide_eq_decide.2 (by omega)
        have tm : (i : Int).tmod 2 = ((i % 2 : Nat) : Int) := _root_.id rfl
        simp only [smGo, pin_eq] at hg
        generalize cmpZ ((cdv (t2 * s2) (2 ^ w) : Nat) : Int) ((2 : Nat) : Int) = z at *
        generalize t1 * s1 / 2 ^ w = u1 at *
        generalize cdv (t2 * s2) (2 ^ w) = u2 at *
        generalize u1 / (2 * i + 1) = x1 at *
        generalize cdv u2 (2 * i + 1) = x2 at *
        have lu2 := lim_len_p2 (Nat.le_trans u2t g2) (by omega)
        have lx2 := lim_len_mono x2u
        have lx1 := lim_len_mono x12
        have lx := lim_len_p2 (n := x.natAbs) (w := w + 10) (by omega) (by omega)
        have ly := lim_len_p2 (n := y.natAbs) (w := w + 10) (by omega) (by omega)
        rw [show ((2 * i + 1 : Nat) : Int) = 2 * (i : Int) + 1 by omega] at by1
        rcases Nat.mod_two_eq_zero_or_one i with hpar | hpar
        · rw [hpar] at tm
          rw [hpar, show decide ((0 : Nat) = 1) = false from rfl] at hg
          replace hg : (if u2 ≤ 2 then some (a1 + x1, a2 + x2, b1, b2) else smGo w s1 s2 f (i + 1) true u1 u2 (a1 + x1) (a2 + x2) b1 b2) = some (A1, A2, B1, B2) := hg
          have sm := ref4_SumN (x := x) (y := y) (c := x1) (d := x2) (by omega) (by omega) (by omega) (by omega)
          have lX := lim_len_p2 (n := (x + x1).natAbs) (w := w + 11) (by omega) (by omega)
          have lY := lim_len_p2 (n := (y + x2).natAbs) (w := w + 11) (by omega) (by omega)
          by_cases hu : u2 ≤ 2
          · rw [decide_eq_true hu] at ec
            rw [if_pos hu] at hg
            have wd := ref4_Wide (a := x + x1) (b := y + x2) (by omega) (by omega) 4 (by omega)
            simp only [Option.some.injEq, Prod.mk.injEq] at hg
            rw [show x + x1 - 4 = ((A1 - B2 - 4 : Nat) : Int) by omega, show y + x2 + 4 = ((A2 - B1 + 4 : Nat) : Int) by omega, ivN_eq] at wd
            generalize x + x1 = X at *
            generalize y + x2 = Y at *
            clear hg hx hy
            repeat (first | (simp only [go_sem, Nat.reduceEqDiff, Nat.reduceAdd, Nat.reduceSub, Nat.reduceMul, Nat.reduceLeDiff, Nat.reduceLT, reduceIte, reduceCtorEq, Nat.succ_ne_zero, elemsC, Int.reduceToNat, Nat.reducePow, i1, i4, o4, i6, o6, i7, i8, i9, o8, o7, tm, ec]) | (simp (disch := (first | omega | (simp only [AL, List.length_map]; omega))) only [AR, AL, ifT, ifF, take_all, List.length_cons, List.length_nil, Int.reduceToNat, Int.reducePow, Nat.reducePow, i1, i4, o4, i6, o6, i7, i8, i9, o8, o7, tm, ec]) | (refine wk_intro (by kernel_rfl) ?_) | (refine vp_draw (id := 3) (l := []) (by kernel_rfl) ?_) | (refine vf_of (by first | exact pp | exact by1 | exact sm | exact mo | exact w2 | exact cc | exact wd) ?_))
          · rw [decide_eq_false hu] at ec
            rw [if_neg hu] at hg
            have hpar' : decide ((i + 1) % 2 = 1) = true := decide_eq_true (by omega)
            rw [← hpar'] at hg
            generalize hX : x + x1 = X at *
            generalize hY : y + x2 = Y at *
            repeat (first | (simp only [go_sem, Nat.reduceEqDiff, Nat.reduceAdd, Nat.reduceSub, Nat.reduceMul, Nat.reduceLeDiff, Nat.reduceLT, reduceIte, reduceCtorEq, Nat.succ_ne_zero, elemsC, Int.reduceToNat, Nat.reducePow, i1, i4, o4, i6, o6, i7, i8, i9, o8, o7, tm, ec]) | (simp (disch := (first | omega | (simp only [AL, List.length_map]; omega))) only [AR, AL, ifT, ifF, take_all, List.length_cons, List.length_nil, Int.reduceToNat, Int.reducePow, Nat.reducePow, i1, i4, o4, i6, o6, i7, i8, i9, o8, o7, tm, ec]) | (refine wk_intro (by kernel_rfl) ?_) | (refine vp_draw (id := 3) (l := []) (by kernel_rfl) ?_) | (refine vf_of (by first | exact pp | exact by1 | exact sm | exact mo | exact w2 | exact cc) ?_))
            exact ⟨⟨f, i + 1, u1, u2, a1 + x1, a2 + x2, b1, b2, X, Y, rfl, by omega, by omega, hg, rfl, rfl, by omega, by omega, by omega, by omega, by omega, by omega, by omega, by omega⟩, by omega⟩
        · rw [hpar] at tm
          rw [hpar, show decide ((1 : Nat) = 1) = true from rfl] at hg
          replace hg : (if u2 ≤ 2 then some (a1, a2, b1 + x1, b2 + x2) else smGo w s1 s2 f (i + 1) false u1 u2 a1 a2 (b1 + x1) (b2 + x2)) = some (A1, A2, B1, B2) := hg
          have sm := ref4_MinusN (x := x) (y := y) (c := x1) (d := x2) (by omega) (by omega) (by omega) (by omega)
          have lX := lim_len_p2 (n := (x - x2).natAbs) (w := w + 11) (by omega) (by omega)
          have lY := lim_len_p2 (n := (y - x1).natAbs) (w := w + 11) (by omega) (by omega)
          by_cases hu : u2 ≤ 2
          · rw [decide_eq_true hu] at ec
            rw [if_pos hu] at hg
            have wd := ref4_Wide (a := x - x2) (b := y - x1) (by omega) (by omega) 4 (by omega)
            simp only [Option.some.injEq, Prod.mk.injEq] at hg
            rw [show x - x2 - 4 = ((A1 - B2 - 4 : Nat) : Int) by omega, show y - x1 + 4 = ((A2 - B1 + 4 : Nat) : Int) by omega, ivN_eq] at wd
            generalize x - x2 = X at *
            generalize y - x1 = Y at *
            clear hg hx hy
            repeat (first | (simp only [go_sem, Nat.reduceEqDiff, Nat.reduceAdd, Nat.reduceSub, Nat.reduceMul, Nat.reduceLeDiff, Nat.reduceLT, reduceIte, reduceCtorEq, Nat.succ_ne_zero, elemsC, Int.reduceToNat, Nat.reducePow, i1, i4, o4, i6, o6, i7, i8, i9, o8, o7, tm, ec]) | (simp (disch := (first | omega | (simp only [AL, List.length_map]; omega))) only [AR, AL, ifT, ifF, take_all, List.length_cons, List.length_nil, Int.reduceToNat, Int.reducePow, Nat.reducePow, i1, i4, o4, i6, o6, i7, i8, i9, o8, o7, tm, ec]) | (refine wk_intro (by kernel_rfl) ?_) | (refine vp_draw (id := 3) (l := []) (by kernel_rfl) ?_) | (refine vf_of (by first | exact pp | exact by1 | exact sm | exact mo | exact w2 | exact cc | exact wd) ?_))
          · rw [decide_eq_false hu] at ec
            rw [if_neg hu] at hg
            have hpar' : decide ((i + 1) % 2 = 1) = false := decide_eq_false (by omega)
            rw [← hpar'] at hg
            generalize hX : x - x2 = X at *
            generalize hY : y - x1 = Y at *
            repeat (first | (simp only [go_sem, Nat.reduceEqDiff, Nat.reduceAdd, Nat.reduceSub, Nat.reduceMul, Nat.reduceLeDiff, Nat.reduceLT, reduceIte, reduceCtorEq, Nat.succ_ne_zero, elemsC, Int.reduceToNat, Nat.reducePow, i1, i4, o4, i6, o6, i7, i8, i9, o8, o7, tm, ec]) | (simp (disch := (first | omega | (simp only [AL, List.length_map]; omega))) only [AR, AL, ifT, ifF, take_all, List.length_cons, List.length_nil, Int.reduceToNat, Int.reducePow, Nat.reducePow, i1, i4, o4, i6, o6, i7, i8, i9, o8, o7, tm, ec]) | (refine wk_intro (by kernel_rfl) ?_) | (refine vp_draw (id := 3) (l := []) (by kernel_rfl) ?_) | (refine vf_of (by first | exact pp | exact by1 | exact sm | exact mo | exact w2 | exact cc) ?_))
            exact ⟨⟨f, i + 1, u1, u2, a1, a2, b1 + x1, b2 + x2, X, Y, rfl, by omega, by omega, hg, rfl, rfl, by omega, by omega, by omega, by omega, by omega, by omega, by omega, by omega⟩, by omega⟩
    · rw [if_neg hfin] at hs; cases hs
  · cases hs
end
theorem ref8_part {n : Nat} (hn : n < 4294967296) : Go.Ev.Fn CX 182 [.int .u32 (n : Int)] (rv (mkRat 1 n)) := by
  have o := ref2_Of false [1] [n] (by simp [okL]) (by simp [okL]; exact hn) (by simp) (by simp)
  rw [show wth [1] = 1 from rfl, show wth [n] = n by simp [wth]] at o
  have o' : Go.Ev.Fn CX 14 [.bool false, .sl 1 [.int .u32 1], .sl 1 [.int .u32 (n : Int)]] (rv (mkRat 1 n)) := o
  clear o
  generalize mkRat 1 n = q at *
  refine Go.Ev.Fn.intro (fn := Tryz.f182) (body := (Tryz.f182).body.get!) (by kernel_rfl) (by kernel_rfl) (by kernel_rfl) (fun _ => rfl) (Nat.le_of_ble_eq_true (by kernel_rfl)) ?_; unfold Tryz.f182; simp only [Option.get!_some]
  repeat (first | (simp only [go_sem, Nat.reduceEqDiff, Nat.reduceAdd, Nat.reduceSub, Nat.reduceMul, Nat.reduceLeDiff, Nat.reduceLT, reduceIte, reduceCtorEq, Nat.succ_ne_zero, elemsC, Int.reduceToNat, Nat.reducePow]) | (simp (disch := (first | omega | (simp only [AL, List.length_map]; omega))) only [AR, AL, ifT, ifF, take_all, List.length_cons, List.length_nil, Int.reduceToNat, Int.reducePow, Nat.reducePow]) | (refine wk_intro (by kernel_rfl) ?_) | (refine vf_of (by first | exact o') ?_))
theorem ref4_OftenN {a b n : Nat} (ha : (lim a).length ≤ 100000) (hb : (lim b).length ≤ 100000) (hn : n < 4294967296) : Go.Ev.Fn CX 170 [ivN a b, .int .i64 (n : Int)] (ivN (a * n) (b * n)) := by
  have h := ref4_Often (a := (a : Int)) (b := (b : Int)) (by rw [Int.natAbs_natCast]; omega) (by rw [Int.natAbs_natCast]; omega) (n : Int) (by omega)
  rw [← Int.natCast_mul, ← Int.natCast_mul, ivN_eq, ivN_eq] at h
  exact h
theorem ref4_BackN {a b n : Nat} (ha : (lim a).length ≤ 100000) (hb : (lim b).length ≤ 100000) (hn : n ≤ 4096) (h0 : 0 < n) : Go.Ev.Fn CX 124 [ivN a b, .int .i64 (n : Int)] (ivN (a / 2 ^ n) (cdv b (2 ^ n))) := by
  have h := ref4_Back (a := (a : Int)) (b := (b : Int)) (by rw [Int.natAbs_natCast]; omega) (by rw [Int.natAbs_natCast]; omega) n hn h0
  rw [cdZ_nat (Nat.pow_pos (by omega)), ← Int.natCast_ediv, ivN_eq, ivN_eq] at h
  exact h
theorem smGo_bd {w s1 s2 T : Nat} (hs1 : s1 ≤ 2 ^ w) (hs : s2 ≤ 2 ^ w) : ∀ (f i : Nat) (odd : Bool) (t1 t2 a1 a2 b1 b2 : Nat) {A1 A2 B1 B2 : Nat}, smGo w s1 s2 f i odd t1 t2 a1 a2 b1 b2 = some (A1, A2, B1, B2) → t1 ≤ T → t2 ≤ T → A1 ≤ a1 + f * T ∧ A2 ≤ a2 + f * T := by
  intro f
  induction f with
  | zero => intro i odd t1 t2 a1 a2 b1 b2 A1 A2 B1 B2 h; simp only [smGo] at h; cases h
  | succ f ih =>
    intro i odd t1 t2 a1 a2 b1 b2 A1 A2 B1 B2 h ht1 ht
    have hP : 0 < 2 ^ w := Nat.pow_pos (by omega)
    have u1t : t1 * s1 / 2 ^ w ≤ t1 := (Nat.div_le_iff_le_mul hP).2 (by have := Nat.mul_le_mul_left t1 hs1; omega)
    have x1u := Nat.div_le_self (t1 * s1 / 2 ^ w) (2 * i + 1)
    have u2t : cdv (t2 * s2) (2 ^ w) ≤ t2 := cdv_le hP (Nat.mul_le_mul_left _ hs)
    have x2u : cdv (cdv (t2 * s2) (2 ^ w)) (2 * i + 1) ≤ cdv (t2 * s2) (2 ^ w) := cdv_le (by omega) (Nat.le_mul_of_pos_right _ (by omega))
    simp only [smGo, pin_eq] at h
    generalize cdv (t2 * s2) (2 ^ w) = u2 at *
    generalize cdv u2 (2 * i + 1) = x2 at *
    generalize t1 * s1 / 2 ^ w = u1 at *
    generalize u1 / (2 * i + 1) = x1 at *
    rw [Nat.add_mul, Nat.one_mul]
    cases odd with
    | true =>
      replace h : (if u2 ≤ 2 then some (a1, a2, b1 + x1, b2 + x2) else smGo w s1 s2 f (i + 1) false u1 u2 a1 a2 (b1 + x1) (b2 + x2)) = some (A1, A2, B1, B2) := h
      split at h
      · simp only [Option.some.injEq, Prod.mk.injEq] at h
        omega
      · have := ih _ _ _ _ _ _ _ _ h (by omega) (by omega)
        omega
    | false =>
      replace h : (if u2 ≤ 2 then some (a1 + x1, a2 + x2, b1, b2) else smGo w s1 s2 f (i + 1) true u1 u2 (a1 + x1) (a2 + x2) b1 b2) = some (A1, A2, B1, B2) := h
      split at h
      · simp only [Option.some.injEq, Prod.mk.injEq] at h
        omega
      · have := ih _ _ _ _ _ _ _ _ h (by omega) (by omega)
        omega
theorem smF_bd {d w A B : Nat} (hd : 0 < d) (hw : w ≤ 900) (h : smF d w = some (A, B)) : (lim A).length ≤ 50 ∧ (lim B).length ≤ 50 := by
  unfold smF at h
  rw [pin_eq, pin_eq, pin_eq, pin_eq] at h
  have hP : 0 < 2 ^ w := Nat.pow_pos (by omega)
  have y2T : cdv (2 ^ w) d ≤ 2 ^ w := cdv_le hd (Nat.le_mul_of_pos_right _ hd)
  have s2T : cdv (cdv (2 ^ w) d * cdv (2 ^ w) d) (2 ^ w) ≤ 2 ^ w := cdv_le hP (Nat.mul_le_mul y2T y2T)
  split at h
  · rename_i A1 A2 B1 B2 hgo
    have y1T : 2 ^ w / d ≤ 2 ^ w := Nat.div_le_self _ _
    have s1T : 2 ^ w / d * (2 ^ w / d) / 2 ^ w ≤ 2 ^ w := (Nat.div_le_iff_le_mul hP).2 (by have := Nat.mul_le_mul y1T y1T; omega)
    have hb := smGo_bd s1T s2T _ _ _ _ _ _ _ _ _ hgo y1T y2T
    split at h
    · simp only [Option.some.injEq, Prod.mk.injEq] at h
      have hbig : 2 ^ w * 2048 = 2 ^ (w + 11) := by rw [Nat.pow_add]
      have l1 := lim_len_p2 (n := B - 4) (w := w + 11) (by omega) (by omega)
      have l2 : (lim B).length ≤ 41 := Nat.le_trans (lim_len_mono (show B ≤ (B - 4) + 4 by omega)) (lim_len_add (L := 40) l1 (Nat.le_trans (lim_len_one (by decide)) (by omega)))
      exact ⟨Nat.le_trans (lim_len_p2 (n := A) (w := w + 11) (by omega) (by omega)) (by omega), by omega⟩
    · cases h
  · cases h
theorem ref8_PiIv {w lo hi : Nat} (hw : w ≤ 800) (h : piIv w = some (lo, hi)) : Go.Ev.Fn CX 142 [.int .i64 (w : Int)] (ivN lo hi) := by
  unfold piIv at h
  split at h
  · rename_i a1 a2 b1 b2 h1 h2
    split at h
    · rename_i hc
      obtain ⟨rfl, rfl⟩ : (a1 * 16 - b2 * 4) / 2 ^ 10 = lo ∧ cdv (a2 * 16 - b1 * 4) (2 ^ 10) = hi := by simpa using h
      clear h
      have p5 := ref8_part (n := 5) (by omega)
      have p239 := ref8_part (n := 239) (by omega)
      have z5 : szR (mkRat 1 5) 2 := ⟨lim_len_lt (by decide +kernel), lim_len_lt (by decide +kernel)⟩
      have z239 : szR (mkRat 1 239) 2 := ⟨lim_len_lt (by decide +kernel), lim_len_lt (by decide +kernel)⟩
      have s5 := ref8_small (d := 5) (RatA_rv z5) (by decide +kernel) (by decide +kernel) (by omega) (by omega) (by omega) h1
      have s239 := ref8_small (d := 239) (RatA_rv z239) (by decide +kernel) (by decide +kernel) (by omega) (by omega) (by omega) h2
      obtain ⟨g1, g2⟩ := smF_bd (by omega) (by omega) h1
      obtain ⟨g3, g4⟩ := smF_bd (by omega) (by omega) h2
      have o1 := ref4_OftenN (a := a1) (b := a2) (n := 16) (by omega) (by omega) (by omega)
      have o2 := ref4_OftenN (a := b1) (b := b2) (n := 4) (by omega) (by omega) (by omega)
      have l16 : (lim 16).length ≤ 1 := lim_len_one (by decide)
      have l4 : (lim 4).length ≤ 1 := lim_len_one (by decide)
      have e1 := lim_len_mul (a := a1) (b := 16)
      have e2 := lim_len_mul (a := a2) (b := 16)
      have e3 := lim_len_mul (a := b1) (b := 4)
      have e4 := lim_len_mul (a := b2) (b := 4)
      have m := ref4_MinusN (x := ((a1 * 16 : Nat) : Int)) (y := ((a2 * 16 : Nat) : Int)) (c := b1 * 4) (d := b2 * 4) (by rw [Int.natAbs_natCast]; omega) (by rw [Int.natAbs_natCast]; omega) (by omega) (by omega)
      rw [← Int.ofNat_sub hc.1, ← Int.ofNat_sub hc.2, ivN_eq, ivN_eq] at m
      have l5 := lim_len_mono (Nat.sub_le (a1 * 16) (b2 * 4))
      have l6 := lim_len_mono (Nat.sub_le (a2 * 16) (b1 * 4))
      have bk := ref4_BackN (a := a1 * 16 - b2 * 4) (b := a2 * 16 - b1 * 4) (n := 10) (by omega) (by omega) (by omega) (by omega)
      generalize (a1 * 16 - b2 * 4) / 2 ^ 10 = x at *
      generalize cdv (a2 * 16 - b1 * 4) (2 ^ 10) = y at *
      generalize a1 * 16 - b2 * 4 = x1 at *
      generalize a2 * 16 - b1 * 4 = x2 at *
      generalize a1 * 16 = x3 at *
      generalize a2 * 16 = x4 at *
      generalize b1 * 4 = x5 at *
      generalize b2 * 4 = x6 at *
      generalize mkRat 1 5 = q5 at *
      generalize mkRat 1 239 = q239 at *
      rw [show ((w + 10 : Nat) : Int) = (w : Int) + 10 by omega] at s5 s239
      refine Go.Ev.Fn.intro (fn := Tryz.f142) (body := (Tryz.f142).body.get!) (by kernel_rfl) (by kernel_rfl) (by kernel_rfl) (fun _ => rfl) (Nat.le_of_ble_eq_true (by kernel_rfl)) ?_; unfold Tryz.f142; simp only [Option.get!_some]
      repeat (first | (simp only [go_sem, Nat.reduceEqDiff, Nat.reduceAdd, Nat.reduceSub, Nat.reduceMul, Nat.reduceLeDiff, Nat.reduceLT, reduceIte, reduceCtorEq, Nat.succ_ne_zero, elemsC, Int.reduceToNat, Nat.reducePow]) | (simp (disch := (first | omega | (simp only [AL, List.length_map]; omega))) only [AR, AL, ifT, ifF, take_all, List.length_cons, List.length_nil, Int.reduceToNat, Int.reducePow, Nat.reducePow]) | (refine wk_intro (by kernel_rfl) ?_) | (refine vp_draw (id := 2) (l := []) (by kernel_rfl) ?_) | (refine vf_of (by first | exact p5 | exact s5 | exact p239 | exact s239 | exact o1 | exact o2 | exact m | exact bk) ?_))
    · cases h
  · cases h
end Go.Proofs.YtecjelnpmcnbaaaGreat
namespace Go.Proofs.YtecjelnpmcnbaaaGreat
open Go.Ev
theorem cdv_ge (a : Nat) {d : Nat} (hd : 0 < d) : a ≤ cdv a d * d := by
  unfold cdv
  have h1 := Nat.div_add_mod (a + d - 1) d
  have h2 := Nat.mod_lt (a + d - 1) hd
  rw [Nat.mul_comm] at h1
  omega
theorem cdv_geR (a : Nat) {d : Nat} (hd : 0 < d) : (a : Rat) ≤ ((cdv a d : Nat) : Rat) * (d : Rat) := by
  have := cdv_ge a hd
  exact_mod_cast this
section
variable {w a b c d : Nat} {q r : Rat}
theorem one_szR' : szR 1 1 := ⟨lim_len_lt (by decide +kernel), lim_len_lt (by decide +kernel)⟩
theorem enc_prodN (h1 : Enc w a b q) (h2 : Enc w c d r) : Enc w (a * c / 2 ^ w) (cdv (b * d) (2 ^ w)) (q * r) := by
  have P := p2_pos w
  refine ⟨(enc_mul h1 h2).1, le_by P ?_⟩
  have g := cdv_geR (b * d) (show 0 < 2 ^ w from Nat.pow_pos (by omega))
  have c1 : ((b * d : Nat) : Rat) = (b : Rat) * (d : Rat) := by exact_mod_cast rfl
  have m := mul_le h1.2 h2.2 (nat_nonneg b) (Rat.mul_nonneg (enc_nonneg h2) (Rat.le_of_lt P))
  rw [c1] at g
  have e : q * r * p2 w * p2 w = q * p2 w * (r * p2 w) := by grind
  rw [e]
  exact Rat.le_trans m g
theorem enc_byN {n m : Nat} (hm : 0 < m) (h : Enc w a b q) : Enc w (a * n / m) (cdv (b * n) m) (q * (n : Rat) / (m : Rat)) := by
  have M : (0 : Rat) < (m : Rat) := by exact_mod_cast hm
  refine ⟨(enc_times hm h).1, le_by M ?_⟩
  have g := cdv_geR (b * n) hm
  have c1 : ((b * n : Nat) : Rat) = (b : Rat) * (n : Rat) := by exact_mod_cast rfl
  rw [c1] at g
  have e := Rat.div_mul_cancel (a := q * (n : Rat)) (b := (m : Rat)) (by grind)
  have m1 := Rat.mul_le_mul_of_nonneg_right h.2 (nat_nonneg n)
  generalize q * (n : Rat) / (m : Rat) = z at *
  have e2 : z * p2 w * (m : Rat) = q * p2 w * (n : Rat) := by grind
  rw [e2]
  exact Rat.le_trans m1 g
def upN (q : Rat) (w : Nat) : Nat := cdv (q.num.natAbs * 2 ^ w) q.den
theorem un_up (w : Nat) : unN q w ≤ upN q w := div_le_cdv q.den_pos (Nat.le_refl _)
theorem up_unR (h0 : 0 ≤ q) : q * p2 w ≤ ((upN q w : Nat) : Rat) := by
  have D : (0 : Rat) < (q.den : Rat) := by exact_mod_cast q.den_pos
  have g := cdv_geR (q.num.natAbs * 2 ^ w) q.den_pos
  have e : ((q.num.natAbs * 2 ^ w : Nat) : Rat) = q * p2 w * (q.den : Rat) := by
    have c1 : ((q.num.natAbs * 2 ^ w : Nat) : Rat) = ((q.num.natAbs : Nat) : Rat) * p2 w := by exact_mod_cast rfl
    have h := num_den q
    have h2 : ((q.num.natAbs : Nat) : Rat) = (q.num : Rat) := by
      have : (q.num.natAbs : Int) = q.num := Int.natAbs_of_nonneg (Rat.num_nonneg.2 h0)
      rw [← this]; rfl
    rw [c1, h2, ← h]
    grind
  rw [e] at g
  exact le_by D g
theorem num_enc (h0 : 0 ≤ q) (w : Nat) : Enc w (unN q w) (upN q w) q := ⟨(unN_le h0 w).1, up_unR h0⟩
theorem num_abs (h0 : 0 ≤ q) : ((q.num.natAbs : Nat) : Int) = q.num := Int.natAbs_of_nonneg (Rat.num_nonneg.2 h0)
theorem upN_le {n m : Nat} (h0 : 0 ≤ q) (h : q * (m : Rat) ≤ (n : Rat)) (hm : n * 2 ^ w ≤ c * m) (hm0 : 0 < m) : upN q w ≤ c := by
  refine cdv_le q.den_pos ?_
  have D : (0 : Rat) < (q.den : Rat) := by exact_mod_cast q.den_pos
  have h2 : ((q.num.natAbs : Nat) : Rat) = q * (q.den : Rat) := by
    rw [num_den q, ← num_abs h0]; rfl
  have h3 : ((q.num.natAbs * m : Nat) : Rat) ≤ ((n * q.den : Nat) : Rat) := by
    have c1 : ((q.num.natAbs * m : Nat) : Rat) = ((q.num.natAbs : Nat) : Rat) * (m : Rat) := by exact_mod_cast rfl
    have c2 : ((n * q.den : Nat) : Rat) = (n : Rat) * (q.den : Rat) := by exact_mod_cast rfl
    rw [c1, c2, h2]
    have := Rat.mul_le_mul_of_nonneg_right h (Rat.le_of_lt D)
    grind
  have h4 : q.num.natAbs * m ≤ n * q.den := by exact_mod_cast h3
  have h5 := Nat.mul_le_mul_right (2 ^ w) h4
  have h6 := Nat.mul_le_mul_right q.den hm
  refine Nat.le_of_mul_le_mul_right (c := m) ?_ hm0
  have e1 : q.num.natAbs * 2 ^ w * m = q.num.natAbs * m * 2 ^ w := by grind
  have e2 : n * q.den * 2 ^ w = n * 2 ^ w * q.den := by grind
  have e3 : c * q.den * m = c * m * q.den := by grind
  rw [e1, e3]
  rw [e2] at h5
  exact Nat.le_trans h5 h6
theorem upN_one (h0 : 0 ≤ q) (h1 : q ≤ 1) : upN q w ≤ 2 ^ w :=
  upN_le (n := 1) (m := 1) h0 (by
    have : ((1 : Nat) : Rat) = 1 := rfl
    rw [this]; grind) (by omega) (by omega)
theorem upN_half (h0 : 0 ≤ q) (h1 : q + q ≤ 1) (hw : 0 < w) : 2 * upN q w ≤ 2 ^ w := by
  have e : 2 ^ w = 2 * 2 ^ (w - 1) := by rw [← Nat.pow_succ', show (w - 1).succ = w by omega]
  have := upN_le (q := q) (w := w) (c := 2 ^ (w - 1)) (n := 1) (m := 2) h0 (by
    have a1 : ((1 : Nat) : Rat) = 1 := rfl
    have a2 : ((2 : Nat) : Rat) = 2 := rfl
    rw [a1, a2]; grind) (by omega) (by omega)
  omega
theorem ref4_NumN {v : SV} {L : Nat} (hv : RatA v q L) (hL1 : 1 ≤ L) (hL : L ≤ 100000) (hw : w ≤ 4096) (h0 : 0 ≤ q) : Go.Ev.Fn CX 84 [v, .int .i64 (w : Int)] (ivN (unN q w) (upN q w)) := by
  have h := ref4_Num hv hL1 hL hw
  rw [← num_abs h0, ← Int.natCast_mul, cdZ_nat q.den_pos, ← Int.natCast_ediv, ivN_eq] at h
  exact h
theorem ref4_SqrtN (ha : (lim a).length ≤ 60) (hb : (lim b).length ≤ 60) (hw : w ≤ 1000) : Go.Ev.Fn CX 171 [ivN a b, .int .i64 (w : Int)] (ivN (rtN (a * 2 ^ w)) (rtN (b * 2 ^ w) + 1)) := by
  have h := ref4_Sqrt ha hb hw
  rw [ivN_eq, ivN_eq] at h
  exact h
theorem rtN_mono {m n : Nat} (h : m ≤ n) : rtN m ≤ rtN n := by
  have h1 := rtN_le m
  have h2 := lt_rtN n
  rcases Nat.lt_or_ge (rtN n) (rtN m) with g | g
  · have := Nat.mul_le_mul (show rtN n + 1 ≤ rtN m by omega) (show rtN n + 1 ≤ rtN m by omega)
    omega
  · exact g
theorem sqrt_len (hb : b ≤ 2 ^ w) : rtN (b * 2 ^ w) ≤ 2 ^ w := by
  have h := rtN_mono (Nat.mul_le_mul_right (2 ^ w) hb)
  rw [← rtN_eq (a := 2 ^ w * 2 ^ w) (r := 2 ^ w) (Nat.le_refl _) (Nat.mul_lt_mul'' (by omega) (by omega))] at h
  exact h
theorem sqrt_pts (h0 : 0 ≤ q) (e : Enc w a b q) : ∃ s1 s2 : Rat, 0 ≤ s1 ∧ s1 * s1 ≤ q ∧ 0 ≤ s2 ∧ q ≤ s2 * s2 ∧ ∀ s, s1 ≤ s → s ≤ s2 → Enc w (rtN (a * 2 ^ w)) (rtN (b * 2 ^ w) + 1) s := by
  have P := p2_pos w
  have PP : 0 < p2 w * p2 w := Rat.mul_pos P P
  have m1 := mk_p2n (rtN (a * 2 ^ w)) w
  have m2 := mk_p2n (rtN (b * 2 ^ w) + 1) w
  have l1 := nat_le_rat (rtN_le (a * 2 ^ w))
  have l2 := nat_le_rat (Nat.le_of_lt (lt_rtN (b * 2 ^ w)))
  have c1 : ∀ m n : Nat, ((m * n : Nat) : Rat) = (m : Rat) * (n : Rat) := by intro m n; exact_mod_cast rfl
  rw [c1, c1] at l1 l2
  change _ ≤ _ * p2 w at l1
  change _ * p2 w ≤ _ at l2
  obtain ⟨e1, e2⟩ := e
  have f1 := Rat.mul_le_mul_of_nonneg_right e1 (Rat.le_of_lt P)
  have f2 := Rat.mul_le_mul_of_nonneg_right e2 (Rat.le_of_lt P)
  have fin : ∀ s : Rat, ((rtN (a * 2 ^ w) : Nat) : Rat) ≤ s * p2 w → s * p2 w ≤ ((rtN (b * 2 ^ w) + 1 : Nat) : Rat) → Enc w (rtN (a * 2 ^ w)) (rtN (b * 2 ^ w) + 1) s := fun s h1 h2 => ⟨h1, h2⟩
  have n1 := nat_nonneg (rtN (a * 2 ^ w))
  have n2 := nat_nonneg (rtN (b * 2 ^ w) + 1)
  generalize ((rtN (a * 2 ^ w) : Nat) : Rat) = x at *
  generalize ((rtN (b * 2 ^ w) + 1 : Nat) : Rat) = y at *
  generalize mkRat ((rtN (a * 2 ^ w) : Nat) : Int) (2 ^ w) = s1 at *
  generalize mkRat ((rtN (b * 2 ^ w) + 1 : Nat) : Int) (2 ^ w) = s2 at *
  refine ⟨s1, s2, le_by P (by rw [m1, Rat.zero_mul]; exact n1), le_by PP ?_, le_by P (by rw [m2, Rat.zero_mul]; exact n2), le_by PP ?_, ?_⟩
  · have : s1 * s1 * (p2 w * p2 w) = s1 * p2 w * (s1 * p2 w) := by grind
    rw [this, m1]
    grind
  · have : s2 * s2 * (p2 w * p2 w) = s2 * p2 w * (s2 * p2 w) := by grind
    rw [this, m2]
    grind
  · intro s h1 h2
    have k1 := Rat.mul_le_mul_of_nonneg_right h1 (Rat.le_of_lt P)
    have k2 := Rat.mul_le_mul_of_nonneg_right h2 (Rat.le_of_lt P)
    exact fin s (by rw [← m1]; exact k1) (by rw [← m2]; exact k2)
end
def pwI (w y1 y2 : Nat) : Nat → Nat → Nat → Nat × Nat
  | 0, r1, r2 => (r1, r2)
  | j + 1, r1, r2 => pwI w y1 y2 j (r1 * y1 / 2 ^ w) (cdv (r2 * y2) (2 ^ w))
theorem pwI_ok {w y1 y2 T : Nat} (h12 : y1 ≤ y2) (hy : y2 ≤ 2 ^ w) : ∀ (j r1 r2 : Nat), r1 ≤ r2 → r2 ≤ T → (pwI w y1 y2 j r1 r2).1 ≤ (pwI w y1 y2 j r1 r2).2 ∧ (pwI w y1 y2 j r1 r2).2 ≤ T
  | 0, _, _, h1, h2 => ⟨h1, h2⟩
  | j + 1, r1, r2, h1, h2 => by
    have P : 0 < 2 ^ w := Nat.pow_pos (by omega)
    exact pwI_ok h12 hy j _ _ (div_le_cdv P (Nat.mul_le_mul h1 h12)) (Nat.le_trans (cdv_le P (Nat.mul_le_mul_left _ hy)) h2)
theorem pwI_enc {w y1 y2 : Nat} {q : Rat} (hq : Enc w y1 y2 q) : ∀ (j r1 r2 : Nat) (s : Rat), Enc w r1 r2 s → Enc w (pwI w y1 y2 j r1 r2).1 (pwI w y1 y2 j r1 r2).2 (s * pwR q j)
  | 0, _, _, s, h => by
    show Enc _ _ _ (s * 1)
    rw [Rat.mul_one]; exact h
  | j + 1, r1, r2, s, h => by
    have := pwI_enc hq j _ _ _ (enc_prodN h hq)
    have e : s * q * pwR q j = s * pwR q (j + 1) := by
      show _ = s * (pwR q j * q)
      grind
    rw [e] at this
    exact this
section
variable {v : SV} {q : Rat} {w L n : Nat}
set_option maxHeartbeats 1000000 in
theorem ref12_power (hv : RatA v q L) (hL1 : 1 ≤ L) (hL : L ≤ 10) (h0 : 0 ≤ q) (h1 : q ≤ 1) (hn : n ≤ 30) (hw : w ≤ 900) (hw0 : 0 < w) :
    ∃ X1 X2 : Nat, ∃ s1 s2 : Rat, Go.Ev.Fn CX 140 [v, .int .i64 (n : Int), .int .i64 (w : Int)] (ivN X1 X2) ∧ X1 ≤ X2 ∧ X2 ≤ 2 ^ w + 1 ∧ 0 ≤ s1 ∧ s1 * s1 ≤ q ∧ 0 ≤ s2 ∧ q ≤ s2 * s2 ∧
      ∀ s, s1 ≤ s → s ≤ s2 → Enc w X1 X2 (pwR q (n / 2) * (if n % 2 = 1 then s else 1)) := by
  have nb := ref4_NumN (w := w) hv hL1 (by omega) (by omega) h0
  have n1 := ref4_NumN (w := w) (RatA_rv (one_szR')) (by omega) (by omega) (by omega) (show (0 : Rat) ≤ 1 by decide)
  have u1 : unN 1 w = 2 ^ w := by show 1 * 2 ^ w / 1 = _; rw [Nat.one_mul, Nat.div_one]
  have u2 : upN 1 w = 2 ^ w := by show cdv (1 * 2 ^ w) 1 = _; unfold cdv; rw [Nat.one_mul, Nat.div_one]; omega
  rw [u1, u2] at n1
  have i1 := ref2_Int 1 (by omega)
  rw [show ((1 : Int) : Rat) = 1 from rfl] at i1
  have en := num_enc h0 w
  have y12 := un_up (q := q) w
  have yT := upN_one (w := w) h0 h1
  obtain ⟨s1, s2, p1, p3, p2', p4, p5⟩ := sqrt_pts h0 en
  have sq := sqrt_len yT
  have sm : rtN (unN q w * 2 ^ w) ≤ rtN (upN q w * 2 ^ w) := rtN_mono (Nat.mul_le_mul_right _ y12)
  have one : Enc w (2 ^ w) (2 ^ w) 1 := by
    refine ⟨by rw [Rat.one_mul]; exact Rat.le_refl, by rw [Rat.one_mul]; exact Rat.le_refl⟩
  obtain ⟨r1, r2, hr12, hrT, henc, hwalk⟩ : ∃ r1 r2 : Nat, r1 ≤ r2 ∧ r2 ≤ 2 ^ w + 1 ∧ (∀ s, s1 ≤ s → s ≤ s2 → Enc w r1 r2 (if n % 2 = 1 then s else 1)) ∧ ((n % 2 = 1 ∧ r1 = rtN (unN q w * 2 ^ w) ∧ r2 = rtN (upN q w * 2 ^ w) + 1) ∨ (n % 2 = 0 ∧ r1 = 2 ^ w ∧ r2 = 2 ^ w)) := by
    by_cases h : n % 2 = 1
    · exact ⟨_, _, by omega, by omega, fun s a b => by rw [if_pos h]; exact p5 s a b, .inl ⟨h, rfl, rfl⟩⟩
    · exact ⟨_, _, Nat.le_refl _, by omega, fun s a b => by rw [if_neg h]; exact one, .inr ⟨by omega, rfl, rfl⟩⟩
  obtain ⟨k1, k2⟩ := pwI_ok (T := 2 ^ w + 1) y12 yT (n / 2) r1 r2 hr12 hrT
  refine ⟨_, _, s1, s2, ?_, k1, k2, p1, p3, p2', p4, fun s a b => by rw [Rat.mul_comm]; exact pwI_enc en (n / 2) _ _ _ (henc s a b)⟩
  have hp1 : 2 ^ w + 1 ≤ 2 ^ (w + 1) := by rw [Nat.pow_succ]; have : 0 < 2 ^ w := Nat.pow_pos (by omega); omega
  have ly2 := lim_len_p2 yT (by omega)
  have ly1 := lim_len_mono y12
  have sqf := ref4_SqrtN (a := unN q w) (b := upN q w) (w := w) (by omega) (by omega) (by omega)
  have hX : ∃ X, pwI w (unN q w) (upN q w) (n / 2) r1 r2 = X := ⟨_, rfl⟩
  obtain ⟨⟨X1, X2⟩, hX⟩ := hX
  rw [hX]
  clear henc en one p1 p3 p2' p4 p5 u1 u2 sm sq k1 k2
  generalize unN q w = y1 at *
  generalize upN q w = y2 at *
  have tm : (n : Int).tmod 2 = ((n % 2 : Nat) : Int) := _root_.id rfl
  rcases hwalk with ⟨hod, rfl, rfl⟩ | ⟨hod, rfl, rfl⟩
  all_goals rw [hod] at tm
  all_goals obtain ⟨s0, n0, d0, rfl, -⟩ := hv
  · refine Go.Ev.Fn.intro (fn := Tryz.f140) (body := (Tryz.f140).body.get!) (by kernel_rfl) (by kernel_rfl) (by kernel_rfl) (fun _ => rfl) (Nat.le_of_ble_eq_true (by kernel_rfl)) ?_; unfold Tryz.f140; simp only [Option.get!_some]
    repeat (first | (simp only [go_sem, Nat.reduceEqDiff, Nat.reduceAdd, Nat.reduceSub, Nat.reduceMul, Nat.reduceLeDiff, Nat.reduceLT, reduceIte, reduceCtorEq, Nat.succ_ne_zero, elemsC, Int.reduceToNat, Nat.reducePow, tm]) | (simp (disch := (first | omega | (simp only [AL, List.length_map]; omega))) only [AR, AL, ifT, ifF, take_all, List.length_cons, List.length_nil, Int.reduceToNat, Int.reducePow, Nat.reducePow, tm]) | (refine wk_intro (by kernel_rfl) ?_) | (refine vf_of (by first | exact nb | exact i1 | exact n1 | exact sqf) ?_))
    refine vp_loop_inv (fun s => s.tmp 1 = .sv (.int .i64 (n : Int)) ∧ s.tmp 2 = .sv (.int .i64 (w : Int)) ∧ s.tmp 6 = .ptr 6 0 0 ∧ s.obj 6 0 = some [.bool false, .sl 0 [], .bool false, .sl 0 []] ∧ s.tmp 7 = .ptr 7 0 0 ∧ s.obj 7 0 = some [.bool false, natV (lim y1), .bool false, natV (lim y2)] ∧ s.tmp 8 = .ptr 8 0 0 ∧
        ∃ j r1 r2 : Nat, s.tmp 9 = .sv (.int .i64 ((2 * (n / 2 - j) + 2 : Nat) : Int)) ∧ j ≤ n / 2 ∧ pwI w y1 y2 j r1 r2 = (X1, X2) ∧ s.obj 8 0 = some [.bool false, natV (lim r1), .bool false, natV (lim r2)] ∧ r1 ≤ r2 ∧ r2 ≤ 2 ^ w + 1)
      (fun s => match s.tmp 9 with | .sv (.int _ i) => n + 3 - i.toNat | _ => 0) ⟨rfl, rfl, rfl, rfl, rfl, rfl, rfl, n / 2, _, _, by rw [Nat.sub_self]; rfl, Nat.le_refl _, hX, rfl, hr12, hrT⟩ ?_
    rintro s ⟨i1, i2, i6, o6, i7, o7, i8, j, r1, r2, i9, hj, hpw, o8, g1, g2⟩
    cases j with
    | zero =>
      simp only [pwI, Prod.mk.injEq] at hpw
      obtain ⟨rfl, rfl⟩ := hpw
      rw [show 2 * (n / 2 - 0) + 2 = n + 2 - n % 2 by omega, hod] at i9
      obtain ⟨m, hm⟩ : ∃ m : Nat, m = n + 2 - 1 := ⟨_, rfl⟩
      rw [← hm] at i9
      have hmn : ¬ m ≤ n := by omega
      have hdec : decide ((m : Int) ≤ (n : Int)) = false := decide_eq_false (by omega)
      repeat (first | (simp only [go_sem, Nat.reduceEqDiff, Nat.reduceAdd, Nat.reduceSub, Nat.reduceMul, Nat.reduceLeDiff, Nat.reduceLT, reduceIte, reduceCtorEq, Nat.succ_ne_zero, elemsC, Int.reduceToNat, Nat.reducePow, i1, i2, i6, o6, i7, o7, i8, i9, o8, hdec]) | (simp (disch := (first | omega | (simp only [AL, List.length_map]; omega))) only [AR, AL, ifT, ifF, take_all, List.length_cons, List.length_nil, Int.reduceToNat, Int.reducePow, Nat.reducePow, i1, i2, i6, o6, i7, o7, i8, i9, o8, hdec]) | (refine wk_intro (by kernel_rfl) ?_))
    | succ j =>
      have lr2 := lim_len_p2 (Nat.le_trans g2 hp1) (by omega)
      have pr := ref4_ProdN (a := r1) (b := r2) (c := y1) (d := y2) (w := w) g1 y12 (by omega) (by omega) (by omega) hw0
      rw [pwI] at hpw
      obtain ⟨m, hm⟩ : ∃ m : Nat, m = 2 * (n / 2 - (j + 1)) + 2 := ⟨_, rfl⟩
      rw [← hm] at i9
      have hmn : m ≤ n := by omega
      have hdec : decide ((m : Int) ≤ (n : Int)) = true := decide_eq_true (by omega)
      have P : 0 < 2 ^ w := Nat.pow_pos (by omega)
      have u12 : r1 * y1 / 2 ^ w ≤ cdv (r2 * y2) (2 ^ w) := div_le_cdv P (Nat.mul_le_mul g1 y12)
      have u2 : cdv (r2 * y2) (2 ^ w) ≤ 2 ^ w + 1 := Nat.le_trans (cdv_le P (Nat.mul_le_mul_left _ yT)) g2
      generalize r1 * y1 / 2 ^ w = u at *
      generalize cdv (r2 * y2) (2 ^ w) = u' at *
      clear sqf
      repeat (first | (simp only [go_sem, Nat.reduceEqDiff, Nat.reduceAdd, Nat.reduceSub, Nat.reduceMul, Nat.reduceLeDiff, Nat.reduceLT, reduceIte, reduceCtorEq, Nat.succ_ne_zero, elemsC, Int.reduceToNat, Nat.reducePow, i1, i2, i6, o6, i7, o7, i8, i9, o8, hdec]) | (simp (disch := (first | omega | (simp only [AL, List.length_map]; omega))) only [AR, AL, ifT, ifF, take_all, List.length_cons, List.length_nil, Int.reduceToNat, Int.reducePow, Nat.reducePow, i1, i2, i6, o6, i7, o7, i8, i9, o8, hdec]) | (refine wk_intro (by kernel_rfl) ?_) | (refine vf_of (by first | exact pr) ?_))
      exact ⟨⟨j, u, u', by congr 3; omega, by omega, hpw, rfl, u12, u2⟩, by omega⟩
  · refine Go.Ev.Fn.intro (fn := Tryz.f140) (body := (Tryz.f140).body.get!) (by kernel_rfl) (by kernel_rfl) (by kernel_rfl) (fun _ => rfl) (Nat.le_of_ble_eq_true (by kernel_rfl)) ?_; unfold Tryz.f140; simp only [Option.get!_some]
    repeat (first | (simp only [go_sem, Nat.reduceEqDiff, Nat.reduceAdd, Nat.reduceSub, Nat.reduceMul, Nat.reduceLeDiff, Nat.reduceLT, reduceIte, reduceCtorEq, Nat.succ_ne_zero, elemsC, Int.reduceToNat, Nat.reducePow, tm]) | (simp (disch := (first | omega | (simp only [AL, List.length_map]; omega))) only [AR, AL, ifT, ifF, take_all, List.length_cons, List.length_nil, Int.reduceToNat, Int.reducePow, Nat.reducePow, tm]) | (refine wk_intro (by kernel_rfl) ?_) | (refine vf_of (by first | exact nb | exact i1 | exact n1) ?_))
    refine vp_loop_inv (fun s => s.tmp 1 = .sv (.int .i64 (n : Int)) ∧ s.tmp 2 = .sv (.int .i64 (w : Int)) ∧ s.tmp 6 = .ptr 6 0 0 ∧ s.obj 6 0 = some [.bool false, .sl 0 [], .bool false, .sl 0 []] ∧ s.tmp 7 = .ptr 7 0 0 ∧ s.obj 7 0 = some [.bool false, natV (lim y1), .bool false, natV (lim y2)] ∧ s.tmp 8 = .ptr 8 0 0 ∧
        ∃ j r1 r2 : Nat, s.tmp 9 = .sv (.int .i64 ((2 * (n / 2 - j) + 2 : Nat) : Int)) ∧ j ≤ n / 2 ∧ pwI w y1 y2 j r1 r2 = (X1, X2) ∧ s.obj 8 0 = some [.bool false, natV (lim r1), .bool false, natV (lim r2)] ∧ r1 ≤ r2 ∧ r2 ≤ 2 ^ w + 1)
      (fun s => match s.tmp 9 with | .sv (.int _ i) => n + 3 - i.toNat | _ => 0) ⟨rfl, rfl, rfl, rfl, rfl, rfl, rfl, n / 2, _, _, by rw [Nat.sub_self]; rfl, Nat.le_refl _, hX, rfl, hr12, hrT⟩ ?_
    rintro s ⟨i1, i2, i6, o6, i7, o7, i8, j, r1, r2, i9, hj, hpw, o8, g1, g2⟩
    cases j with
    | zero =>
      simp only [pwI, Prod.mk.injEq] at hpw
      obtain ⟨rfl, rfl⟩ := hpw
      rw [show 2 * (n / 2 - 0) + 2 = n + 2 - n % 2 by omega, hod] at i9
      obtain ⟨m, hm⟩ : ∃ m : Nat, m = n + 2 - 0 := ⟨_, rfl⟩
      rw [← hm] at i9
      have hmn : ¬ m ≤ n := by omega
      have hdec : decide ((m : Int) ≤ (n : Int)) = false := decide_eq_false (by omega)
      repeat (first | (simp only [go_sem, Nat.reduceEqDiff, Nat.reduceAdd, Nat.reduceSub, Nat.reduceMul, Nat.reduceLeDiff, Nat.reduceLT, reduceIte, reduceCtorEq, Nat.succ_ne_zero, elemsC, Int.reduceToNat, Nat.reducePow, i1, i2, i6, o6, i7, o7, i8, i9, o8, hdec]) | (simp (disch := (first | omega | (simp only [AL, List.length_map]; omega))) only [AR, AL, ifT, ifF, take_all, List.length_cons, List.length_nil, Int.reduceToNat, Int.reducePow, Nat.reducePow, i1, i2, i6, o6, i7, o7, i8, i9, o8, hdec]) | (refine wk_intro (by kernel_rfl) ?_))
    | succ j =>
      have lr2 := lim_len_p2 (Nat.le_trans g2 hp1) (by omega)
      have pr := ref4_ProdN (a := r1) (b := r2) (c := y1) (d := y2) (w := w) g1 y12 (by omega) (by omega) (by omega) hw0
      rw [pwI] at hpw
      obtain ⟨m, hm⟩ : ∃ m : Nat, m = 2 * (n / 2 - (j + 1)) + 2 := ⟨_, rfl⟩
      rw [← hm] at i9
      have hmn : m ≤ n := by omega
      have hdec : decide ((m : Int) ≤ (n : Int)) = true := decide_eq_true (by omega)
      have P : 0 < 2 ^ w := Nat.pow_pos (by omega)
      have u12 : r1 * y1 / 2 ^ w ≤ cdv (r2 * y2) (2 ^ w) := div_le_cdv P (Nat.mul_le_mul g1 y12)
      have u2 : cdv (r2 * y2) (2 ^ w) ≤ 2 ^ w + 1 := Nat.le_trans (cdv_le P (Nat.mul_le_mul_left _ yT)) g2
      generalize r1 * y1 / 2 ^ w = u at *
      generalize cdv (r2 * y2) (2 ^ w) = u' at *
      clear sqf
      repeat (first | (simp only [go_sem, Nat.reduceEqDiff, Nat.reduceAdd, Nat.reduceSub, Nat.reduceMul, Nat.reduceLeDiff, Nat.reduceLT, reduceIte, reduceCtorEq, Nat.succ_ne_zero, elemsC, Int.reduceToNat, Nat.reducePow, i1, i2, i6, o6, i7, o7, i8, i9, o8, hdec]) | (simp (disch := (first | omega | (simp only [AL, List.length_map]; omega))) only [AR, AL, ifT, ifF, take_all, List.length_cons, List.length_nil, Int.reduceToNat, Int.reducePow, Nat.reducePow, i1, i2, i6, o6, i7, o7, i8, i9, o8, hdec]) | (refine wk_intro (by kernel_rfl) ?_) | (refine vf_of (by first | exact pr) ?_))
      exact ⟨⟨j, u, u', by congr 3; omega, by omega, hpw, rfl, u12, u2⟩, by omega⟩
end
end Go.Proofs.YtecjelnpmcnbaaaGreat
namespace Go.Proofs.YtecjelnpmcnbaaaGreat
open Go.Ev
def refGo (w y1 y2 a b : Nat) (x : Rat) : Nat → Nat → Nat → Nat → Nat → Nat → Option (Nat × Nat × Nat)
  | 0, _, _, _, _, _ => none
  | f + 1, k, t1, t2, s1, s2 =>
    if cdv (cdv (t2 * y2) (2 ^ w) * (a + b + 2 * k)) (a + 2 + 2 * k) ≤ 8 ∧ x * (((4 * (a + b + 2 * k + 2) : Nat) : Int) : Rat) ≤ (((3 * (a + 4 + 2 * k) : Nat) : Int) : Rat) then
      some (s1 + t1 * y1 / 2 ^ w * (a + b + 2 * k) / (a + 2 + 2 * k), s2 + cdv (cdv (t2 * y2) (2 ^ w) * (a + b + 2 * k)) (a + 2 + 2 * k), k + 1)
    else refGo w y1 y2 a b x f (k + 1) (t1 * y1 / 2 ^ w * (a + b + 2 * k) / (a + 2 + 2 * k)) (cdv (cdv (t2 * y2) (2 ^ w) * (a + b + 2 * k)) (a + 2 + 2 * k))
      (s1 + t1 * y1 / 2 ^ w * (a + b + 2 * k) / (a + 2 + 2 * k)) (s2 + cdv (cdv (t2 * y2) (2 ^ w) * (a + b + 2 * k)) (a + 2 + 2 * k))
section
variable {w y1 y2 a b : Nat} {x : Rat}
theorem refGo_enc (hx : Enc w y1 y2 x) : ∀ (f k t1 t2 s1 s2 : Nat) {A B K : Nat}, refGo w y1 y2 a b x f k t1 t2 s1 s2 = some (A, B, K) → Enc w t1 t2 (rR x a b k) → Enc w s1 s2 (sR x a b k) →
    (A : Rat) ≤ sR x a b K * p2 w ∧ sR x a b K * p2 w ≤ (B : Rat) ∧ rR x a b K * p2 w ≤ 8 ∧ x * (((4 * (a + b + 2 * K) : Nat) : Int) : Rat) ≤ (((3 * (a + 2 + 2 * K) : Nat) : Int) : Rat) := by
  intro f
  induction f with
  | zero => intro k t1 t2 s1 s2 A B K h; simp only [refGo] at h; cases h
  | succ f ih =>
    intro k t1 t2 s1 s2 A B K h ht hs
    have e1 := enc_prodN ht hx
    have e2 := enc_byN (n := a + b + 2 * k) (m := a + 2 + 2 * k) (by omega) e1
    have e3 : Enc w _ _ (rR x a b (k + 1)) := e2
    have e4 : Enc w _ _ (sR x a b (k + 1)) := enc_add hs e3
    rw [refGo] at h
    by_cases c : cdv (cdv (t2 * y2) (2 ^ w) * (a + b + 2 * k)) (a + 2 + 2 * k) ≤ 8 ∧ x * (((4 * (a + b + 2 * k + 2) : Nat) : Int) : Rat) ≤ (((3 * (a + 4 + 2 * k) : Nat) : Int) : Rat)
    · rw [if_pos c] at h
      simp only [Option.some.injEq, Prod.mk.injEq] at h
      obtain ⟨rfl, rfl, rfl⟩ := h
      refine ⟨e4.1, e4.2, ?_, ?_⟩
      · refine Rat.le_trans e3.2 ?_
        have := nat_le_rat c.1
        exact this
      · rw [show a + b + 2 * (k + 1) = a + b + 2 * k + 2 by omega, show a + 2 + 2 * (k + 1) = a + 4 + 2 * k by omega]
        exact c.2
    · rw [if_neg c] at h
      exact ih _ _ _ _ _ h e3 e4
theorem step_half {t : Nat} (hy : 2 * y2 ≤ 2 ^ w) : 2 * cdv (t * y2) (2 ^ w) ≤ t + 1 := by
  have P : 0 < 2 ^ w := Nat.pow_pos (by omega)
  have h : cdv (t * y2) (2 ^ w) ≤ (t + 1) / 2 := by
    refine cdv_le P ?_
    have h1 : t * (2 * y2) ≤ t * 2 ^ w := Nat.mul_le_mul_left _ hy
    have h2 : t * 2 ^ w ≤ 2 * ((t + 1) / 2) * 2 ^ w := Nat.mul_le_mul_right _ (by omega)
    have e1 : t * (2 * y2) = 2 * (t * y2) := by grind
    have e2 : 2 * ((t + 1) / 2) * 2 ^ w = 2 * ((t + 1) / 2 * 2 ^ w) := by rw [Nat.mul_assoc]
    omega
  omega
theorem step_late {s n m : Nat} (hm : 0 < m) (h : 2 * n ≤ 3 * m) : 2 * cdv (s * n) m ≤ 3 * s + 1 := by
  have h : cdv (s * n) m ≤ (3 * s + 1) / 2 := by
    refine cdv_le hm ?_
    have h1 : s * (2 * n) ≤ s * (3 * m) := Nat.mul_le_mul_left _ h
    have h2 : 3 * s * m ≤ 2 * ((3 * s + 1) / 2) * m := Nat.mul_le_mul_right _ (by omega)
    have e1 : s * (2 * n) = 2 * (s * n) := by grind
    have e2 : s * (3 * m) = 3 * s * m := by grind
    have e3 : 2 * ((3 * s + 1) / 2) * m = 2 * ((3 * s + 1) / 2 * m) := by rw [Nat.mul_assoc]
    omega
  omega
theorem step_early {s n m : Nat} (hm : 0 < m) (h : n ≤ 7 * m) : cdv (s * n) m ≤ 7 * s := by
  refine cdv_le hm ?_
  have h1 : s * n ≤ s * (7 * m) := Nat.mul_le_mul_left _ h
  have e : s * (7 * m) = 7 * s * m := by grind
  omega
def okR (w b k t1 t2 s1 s2 : Nat) : Prop := t1 ≤ t2 ∧ t2 + 8 ≤ 4 ^ min k b * (2 ^ w + 8) ∧ 2 ^ w ≤ s1 ∧ s1 ≤ s2 ∧ s2 ≤ (k + 1) * (4 ^ b * (2 ^ w + 8))
theorem okR_step {k t1 t2 s1 s2 : Nat} (hP : 16 ≤ 2 ^ w) (h12 : y1 ≤ y2) (hy : 2 * y2 ≤ 2 ^ w) (ha : 1 ≤ a) (hb : b ≤ 20) (h : okR w b k t1 t2 s1 s2) :
    okR w b (k + 1) (t1 * y1 / 2 ^ w * (a + b + 2 * k) / (a + 2 + 2 * k)) (cdv (cdv (t2 * y2) (2 ^ w) * (a + b + 2 * k)) (a + 2 + 2 * k)) (s1 + t1 * y1 / 2 ^ w * (a + b + 2 * k) / (a + 2 + 2 * k)) (s2 + cdv (cdv (t2 * y2) (2 ^ w) * (a + b + 2 * k)) (a + 2 + 2 * k)) := by
  obtain ⟨g1, g2, g3, g4, g5⟩ := h
  have P : 0 < 2 ^ w := Nat.pow_pos (by omega)
  have v12 : t1 * y1 / 2 ^ w ≤ cdv (t2 * y2) (2 ^ w) := div_le_cdv P (Nat.mul_le_mul g1 h12)
  have u12 : t1 * y1 / 2 ^ w * (a + b + 2 * k) / (a + 2 + 2 * k) ≤ cdv (cdv (t2 * y2) (2 ^ w) * (a + b + 2 * k)) (a + 2 + 2 * k) := div_le_cdv (by omega) (Nat.mul_le_mul_right _ v12)
  have sh := step_half (t := t2) hy
  generalize cdv (t2 * y2) (2 ^ w) = s at *
  have key : cdv (s * (a + b + 2 * k)) (a + 2 + 2 * k) + 8 ≤ 4 ^ min (k + 1) b * (2 ^ w + 8) := by
    by_cases hk : b ≤ k
    · rw [Nat.min_eq_right (show b ≤ k + 1 by omega)]
      rw [Nat.min_eq_right hk] at g2
      have := step_late (s := s) (n := a + b + 2 * k) (m := a + 2 + 2 * k) (by omega) (by omega)
      have h16 : 16 ≤ 4 ^ b * (2 ^ w + 8) ∨ t2 + 8 < 16 := by omega
      by_cases ht : 8 ≤ t2
      · omega
      · have h1 : 1 ≤ 4 ^ b := Nat.pow_pos (by omega)
        have h9 : 2 ^ w + 8 ≤ 4 ^ b * (2 ^ w + 8) := Nat.le_mul_of_pos_left _ h1
        omega
    · rw [Nat.min_eq_left (show k + 1 ≤ b by omega), Nat.pow_succ, Nat.mul_comm (4 ^ k) 4, Nat.mul_assoc]
      rw [Nat.min_eq_left (show k ≤ b by omega)] at g2
      have := step_early (s := s) (n := a + b + 2 * k) (m := a + 2 + 2 * k) (by omega) (by omega)
      omega
  have top : 4 ^ min (k + 1) b * (2 ^ w + 8) ≤ 4 ^ b * (2 ^ w + 8) := Nat.mul_le_mul_right _ (Nat.pow_le_pow_right (by omega) (Nat.min_le_right _ _))
  refine ⟨u12, key, Nat.le_trans g3 (Nat.le_add_right _ _), by omega, ?_⟩
  have e : (k + 1 + 1) * (4 ^ b * (2 ^ w + 8)) = (k + 1) * (4 ^ b * (2 ^ w + 8)) + 4 ^ b * (2 ^ w + 8) := by rw [Nat.add_mul (k + 1) 1, Nat.one_mul]
  omega
theorem stop_late (h0 : 0 ≤ x) (h1 : x + x ≤ 1) {k : Nat} (hk : b ≤ k) : x * (((4 * (a + b + 2 * k + 2) : Nat) : Int) : Rat) ≤ (((3 * (a + 4 + 2 * k) : Nat) : Int) : Rat) := by
  have c1 : (((4 * (a + b + 2 * k + 2) : Nat) : Int) : Rat) = 2 * ((2 * (a + b + 2 * k + 2) : Nat) : Rat) := by
    have c0 : (((4 * (a + b + 2 * k + 2) : Nat) : Int) : Rat) = ((4 * (a + b + 2 * k + 2) : Nat) : Rat) := rfl
    rw [c0, show 4 * (a + b + 2 * k + 2) = 2 * (2 * (a + b + 2 * k + 2)) by omega]
    exact_mod_cast rfl
  have c2 : (((3 * (a + 4 + 2 * k) : Nat) : Int) : Rat) = ((3 * (a + 4 + 2 * k) : Nat) : Rat) := rfl
  have h2 : ((2 * (a + b + 2 * k + 2) : Nat) : Rat) ≤ ((3 * (a + 4 + 2 * k) : Nat) : Rat) := nat_le_rat (by omega)
  have n0 := nat_nonneg (2 * (a + b + 2 * k + 2))
  rw [c1, c2]
  generalize ((2 * (a + b + 2 * k + 2) : Nat) : Rat) = n at *
  generalize ((3 * (a + 4 + 2 * k) : Nat) : Rat) = m at *
  have := Rat.mul_le_mul_of_nonneg_right h1 n0
  grind
theorem ref_late (h0 : 0 ≤ x) (h1 : x + x ≤ 1) (hy : 2 * y2 ≤ 2 ^ w) : ∀ (f k t1 t2 s1 s2 : Nat), b ≤ k → 3 ^ f * (t2 - 8) < 4 ^ f → ∃ A B K, refGo w y1 y2 a b x (f + 1) k t1 t2 s1 s2 = some (A, B, K) := by
  intro f
  induction f with
  | zero =>
    intro k t1 t2 s1 s2 hk h
    have sh := step_half (t := t2) hy
    have := step_late (s := cdv (t2 * y2) (2 ^ w)) (n := a + b + 2 * k) (m := a + 2 + 2 * k) (by omega) (by omega)
    rw [refGo, if_pos ⟨by simp at h; omega, stop_late h0 h1 hk⟩]
    exact ⟨_, _, _, rfl⟩
  | succ f ih =>
    intro k t1 t2 s1 s2 hk h
    have sh := step_half (t := t2) hy
    have st := step_late (s := cdv (t2 * y2) (2 ^ w)) (n := a + b + 2 * k) (m := a + 2 + 2 * k) (by omega) (by omega)
    rw [refGo]
    by_cases c : cdv (cdv (t2 * y2) (2 ^ w) * (a + b + 2 * k)) (a + 2 + 2 * k) ≤ 8
    · rw [if_pos ⟨c, stop_late h0 h1 hk⟩]
      exact ⟨_, _, _, rfl⟩
    · rw [if_neg (fun g => c g.1)]
      refine ih _ _ _ _ _ (by omega) ?_
      generalize cdv (cdv (t2 * y2) (2 ^ w) * (a + b + 2 * k)) (a + 2 + 2 * k) = u at *
      have d : 4 * (u - 8) ≤ 3 * (t2 - 8) := by omega
      have d2 := Nat.mul_le_mul_left (3 ^ f) d
      rw [Nat.pow_succ, Nat.pow_succ] at h
      have e1 : 3 ^ f * (4 * (u - 8)) = 4 * (3 ^ f * (u - 8)) := by grind
      have e2 : 3 ^ f * (3 * (t2 - 8)) = 3 ^ f * 3 * (t2 - 8) := by grind
      omega
theorem ref_early (hP : 16 ≤ 2 ^ w) (h0 : 0 ≤ x) (h1 : x + x ≤ 1) (h12 : y1 ≤ y2) (hy : 2 * y2 ≤ 2 ^ w) (ha : 1 ≤ a) (hb : b ≤ 20) {F : Nat} (hF : 3 ^ F * (4 ^ b * (2 ^ w + 8)) < 4 ^ F) :
    ∀ (j k t1 t2 s1 s2 : Nat), k + j = b → okR w b k t1 t2 s1 s2 → ∃ A B K, refGo w y1 y2 a b x (j + (F + 1)) k t1 t2 s1 s2 = some (A, B, K) := by
  intro j
  induction j with
  | zero =>
    intro k t1 t2 s1 s2 hk h
    rw [Nat.zero_add]
    refine ref_late h0 h1 hy F k t1 t2 s1 s2 (by omega) (Nat.lt_of_le_of_lt (Nat.mul_le_mul_left _ ?_) hF)
    have := h.2.1
    rw [Nat.min_eq_right (by omega)] at this
    omega
  | succ j ih =>
    intro k t1 t2 s1 s2 hk h
    rw [show j + 1 + (F + 1) = (j + (F + 1)) + 1 by omega, refGo]
    by_cases c : cdv (cdv (t2 * y2) (2 ^ w) * (a + b + 2 * k)) (a + 2 + 2 * k) ≤ 8 ∧ x * (((4 * (a + b + 2 * k + 2) : Nat) : Int) : Rat) ≤ (((3 * (a + 4 + 2 * k) : Nat) : Int) : Rat)
    · rw [if_pos c]
      exact ⟨_, _, _, rfl⟩
    · rw [if_neg c]
      exact ih _ _ _ _ _ (by omega) (okR_step hP h12 hy ha hb h)
theorem refGo_ok (hP : 16 ≤ 2 ^ w) (h12 : y1 ≤ y2) (hy : 2 * y2 ≤ 2 ^ w) (ha : 1 ≤ a) (hb : b ≤ 20) : ∀ (f k t1 t2 s1 s2 : Nat) {A B K : Nat}, refGo w y1 y2 a b x f k t1 t2 s1 s2 = some (A, B, K) → okR w b k t1 t2 s1 s2 → K ≤ k + f ∧ 2 ^ w ≤ A ∧ A ≤ B ∧ B ≤ (K + 1) * (4 ^ b * (2 ^ w + 8)) := by
  intro f
  induction f with
  | zero => intro k t1 t2 s1 s2 A B K h; simp only [refGo] at h; cases h
  | succ f ih =>
    intro k t1 t2 s1 s2 A B K h ho
    have st := okR_step hP h12 hy ha hb ho
    rw [refGo] at h
    by_cases c : cdv (cdv (t2 * y2) (2 ^ w) * (a + b + 2 * k)) (a + 2 + 2 * k) ≤ 8 ∧ x * (((4 * (a + b + 2 * k + 2) : Nat) : Int) : Rat) ≤ (((3 * (a + 4 + 2 * k) : Nat) : Int) : Rat)
    · rw [if_pos c] at h
      simp only [Option.some.injEq, Prod.mk.injEq] at h
      obtain ⟨rfl, rfl, rfl⟩ := h
      exact ⟨by omega, st.2.2.1, st.2.2.2.1, st.2.2.2.2⟩
    · rw [if_neg c] at h
      have := ih _ _ _ _ _ h st
      exact ⟨by omega, this.2⟩
theorem ref4_SumNN {a b c d : Nat} (ha : (lim a).length ≤ 100000) (hb : (lim b).length ≤ 100000) (hc : (lim c).length ≤ 100000) (hd : (lim d).length ≤ 100000) : Go.Ev.Fn CX 86 [ivN a b, ivN c d] (ivN (a + c) (b + d)) := by
  have h := ref4_SumN (x := (a : Int)) (y := (b : Int)) (c := c) (d := d) (by rw [Int.natAbs_natCast]; omega) (by rw [Int.natAbs_natCast]; omega) hc hd
  rw [← Int.natCast_add, ← Int.natCast_add, ivN_eq, ivN_eq] at h
  exact h
theorem ref4_WideN {a b n : Nat} (ha : (lim a).length ≤ 100000) (hb : (lim b).length ≤ 100000) (h : n ≤ a) (hn : n < 4294967296) : Go.Ev.Fn CX 178 [ivN a b, .int .i64 (n : Int)] (ivN (a - n) (b + n)) := by
  have w := ref4_Wide (a := (a : Int)) (b := (b : Int)) (by rw [Int.natAbs_natCast]; omega) (by rw [Int.natAbs_natCast]; omega) (n : Int) (by omega)
  rw [show (a : Int) - (n : Int) = ((a - n : Nat) : Int) by omega, ← Int.natCast_add, ivN_eq, ivN_eq] at w
  exact w
theorem ref4_MostN8 {b : Nat} (hb : (lim b).length ≤ 100000) : Go.Ev.Fn CX 175 [intN b, intN 8] (.int .i64 (cmpZ b 8)) := ref4_CmpN hb (by have : (lim 8).length ≤ 1 := lim_len_one (by decide); omega)
set_option maxHeartbeats 1000000 in
theorem ref12_row {v : SV} {L : Nat} (hv : RatA v x L) (hL1 : 1 ≤ L) (hL : L ≤ 10) (ha : 1 ≤ a) (ha2 : a ≤ 20) (hb : 1 ≤ b) (hb2 : b ≤ 20) (h0 : 0 ≤ x) (h1 : x + x ≤ 1) (hw0 : 60 ≤ w) (hw : w ≤ 500) :
    ∃ A B K : Nat, Go.Ev.Fn CX 143 [.int .i64 (a : Int), .int .i64 (b : Int), v, .int .i64 (w : Int)] (ivN A B) ∧ A ≤ B ∧ B ≤ 2 ^ (w + 60) ∧
      (A : Rat) ≤ sR x a b K * p2 w ∧ (sR x a b K + 3 * rR x a b K) * p2 w ≤ (B : Rat) ∧ x * (((4 * (a + b + 2 * K) : Nat) : Int) : Rat) ≤ (((3 * (a + 2 + 2 * K) : Nat) : Int) : Rat) := by
  have nb := ref4_NumN (w := w) hv hL1 (by omega) (by omega) h0
  have n1 := ref4_NumN (w := w) (RatA_rv (one_szR')) (by omega) (by omega) (by omega) (show (0 : Rat) ≤ 1 by decide)
  have u1 : unN 1 w = 2 ^ w := by show 1 * 2 ^ w / 1 = _; rw [Nat.one_mul, Nat.div_one]
  have u2 : upN 1 w = 2 ^ w := by show cdv (1 * 2 ^ w) 1 = _; unfold cdv; rw [Nat.one_mul, Nat.div_one]; omega
  rw [u1, u2] at n1
  have i1 := ref2_Int 1 (by omega)
  rw [show ((1 : Int) : Rat) = 1 from rfl] at i1
  have en := num_enc h0 w
  have y12 := un_up (q := x) w
  have yT := upN_one (w := w) h0 (show x ≤ 1 by grind)
  have yH := upN_half (w := w) h0 h1 (by omega)
  have hP : 2 ^ 60 ≤ 2 ^ w := Nat.pow_le_pow_right (n := 2) (by omega) hw0
  have hP16 : 16 ≤ 2 ^ w := by omega
  have ok : okR w b 0 (2 ^ w) (2 ^ w) (2 ^ w) (2 ^ w) := by
    unfold okR
    rw [Nat.zero_min, Nat.pow_zero, Nat.one_mul, Nat.zero_add, Nat.one_mul]
    have h1 : 1 ≤ 4 ^ b := Nat.pow_pos (by omega)
    have h9 : 2 ^ w + 8 ≤ 4 ^ b * (2 ^ w + 8) := Nat.le_mul_of_pos_left _ h1
    exact ⟨by omega, by omega, by omega, by omega, by omega⟩
  have h40 : 4 ^ b * (2 ^ w + 8) ≤ 2 ^ (w + 41) := by
    have a1 : 4 ^ b ≤ 4 ^ 20 := Nat.pow_le_pow_right (by omega) hb2
    have a2 : 2 ^ (w + 41) = 4 ^ 20 * (2 ^ w * 2) := by rw [show w + 41 = 40 + (w + 1) by omega, Nat.pow_add 2 40, Nat.pow_add 2 w 1]
    rw [a2]
    exact Nat.mul_le_mul a1 (by omega)
  have hF : 3 ^ 1400 * (4 ^ b * (2 ^ w + 8)) < 4 ^ 1400 := by
    obtain ⟨E, hE⟩ : ∃ E : Nat, E = 541 := ⟨_, rfl⟩
    have h49 : 4 ^ b * (2 ^ w + 8) ≤ 2 ^ E := Nat.le_trans h40 (Nat.pow_le_pow_right (by omega) (by omega))
    obtain ⟨N4, hN4⟩ : ∃ N, N = 4 ^ 1400 := ⟨_, rfl⟩
    obtain ⟨N3, hN3⟩ : ∃ N, N = 3 ^ 1400 := ⟨_, rfl⟩
    rw [← hN4, ← hN3]
    have hk : N3 * 2 ^ E < N4 := by rw [hN3, hN4, hE]; decide +kernel
    exact Nat.lt_of_le_of_lt (Nat.mul_le_mul_left _ h49) hk
  obtain ⟨A, B, K, hg⟩ := ref_early (x := x) (a := a) (F := 1400) hP16 h0 h1 y12 yH ha hb2 hF b 0 (2 ^ w) (2 ^ w) (2 ^ w) (2 ^ w) (by omega) ok
  obtain ⟨k0, k1, k2, k3⟩ := refGo_ok hP16 y12 yH ha hb2 _ _ _ _ _ _ hg ok
  have one : Enc w (2 ^ w) (2 ^ w) 1 := ⟨by rw [Rat.one_mul]; exact Rat.le_refl, by rw [Rat.one_mul]; exact Rat.le_refl⟩
  obtain ⟨e1, e2, e3, e4⟩ := refGo_enc en _ 0 _ _ _ _ hg one one
  have hK : (K + 1) * (4 ^ b * (2 ^ w + 8)) ≤ 2 ^ (w + 52) := by
    have : 2 ^ (w + 52) = 2048 * 2 ^ (w + 41) := by rw [show w + 52 = 11 + (w + 41) by omega, Nat.pow_add 2 11]
    rw [this]
    exact Nat.mul_le_mul (by omega) h40
  have hB : B + 64 ≤ 2 ^ (w + 60) := by
    have : 2 ^ (w + 60) = 256 * 2 ^ (w + 52) := by rw [show w + 60 = 8 + (w + 52) by omega, Nat.pow_add 2 8]
    have : 1 ≤ 2 ^ (w + 52) := Nat.pow_pos (by omega)
    omega
  clear hF
  have hP64 : 64 ≤ 2 ^ w := by omega
  refine ⟨A - 64, B + 64, K, ?_, by omega, hB, ?_, ?_, e4⟩
  rotate_left
  · have : ((A - 64 : Nat) : Rat) ≤ (A : Rat) := nat_le_rat (by omega)
    exact Rat.le_trans this e1
  · have : ((B + 64 : Nat) : Rat) = (B : Rat) + 64 := by exact_mod_cast rfl
    rw [this]
    grind
  have lens := fun (k t1 t2 s1 s2 : Nat) (hk : k ≤ 1500) (h : okR w b k t1 t2 s1 s2) => (show (lim t1).length ≤ 40 ∧ (lim t2).length ≤ 40 ∧ (lim s1).length ≤ 40 ∧ (lim s2).length ≤ 40 from by
    obtain ⟨q1, q2, q3, q4, q5⟩ := h
    have top : 4 ^ min k b * (2 ^ w + 8) ≤ 4 ^ b * (2 ^ w + 8) := Nat.mul_le_mul_right _ (Nat.pow_le_pow_right (by omega) (Nat.min_le_right _ _))
    have b1 : (k + 1) * (4 ^ b * (2 ^ w + 8)) ≤ 2048 * 2 ^ (w + 41) := Nat.mul_le_mul (by omega) h40
    have b2 : 2048 * 2 ^ (w + 41) = 2 ^ (w + 52) := by rw [show w + 52 = 11 + (w + 41) by omega, Nat.pow_add 2 11]
    have b3 : 2 ^ (w + 41) ≤ 2 ^ (w + 52) := Nat.pow_le_pow_right (by omega) (by omega)
    exact ⟨lim_len_p2 (w := w + 52) (by omega) (by omega), lim_len_p2 (w := w + 52) (by omega) (by omega), lim_len_p2 (w := w + 52) (by omega) (by omega), lim_len_p2 (w := w + 52) (by omega) (by omega)⟩)
  have step := fun (k t1 t2 s1 s2 : Nat) (h : okR w b k t1 t2 s1 s2) => okR_step (a := a) hP16 y12 yH ha hb2 h
  have ly2 := lim_len_p2 yT (by omega)
  have w8 := ref4_Whole 8 (by omega)
  rw [show (8 : Int) = ((8 : Nat) : Int) from rfl, intN_eq] at w8
  have zx := szR_of hv hL1
  clear u1 u2 en yH hP one e1 e2 e3 e4 h40 hK hB
  generalize unN x w = y1 at *
  generalize upN x w = y2 at *
  obtain ⟨s0, n0, d0, rfl, hv2⟩ := hv
  refine Go.Ev.Fn.intro (fn := Tryz.f143) (body := (Tryz.f143).body.get!) (by kernel_rfl) (by kernel_rfl) (by kernel_rfl) (fun _ => rfl) (Nat.le_of_ble_eq_true (by kernel_rfl)) ?_; unfold Tryz.f143; simp only [Option.get!_some]
  repeat (first | (simp only [go_sem, Nat.reduceEqDiff, Nat.reduceAdd, Nat.reduceSub, Nat.reduceMul, Nat.reduceLeDiff, Nat.reduceLT, reduceIte, reduceCtorEq, Nat.succ_ne_zero, elemsC, Int.reduceToNat, Nat.reducePow]) | (simp (disch := (first | omega | (simp only [AL, List.length_map]; omega))) only [AR, AL, ifT, ifF, take_all, List.length_cons, List.length_nil, Int.reduceToNat, Int.reducePow, Nat.reducePow]) | (refine wk_intro (by kernel_rfl) ?_) | (refine vp_draw (id := 3) (l := []) (by kernel_rfl) ?_) | (refine vp_draw (id := 8) (l := []) (by kernel_rfl) ?_) | (refine vp_draw (id := 9) (l := []) (by kernel_rfl) ?_) | (refine vf_of (by first | exact nb | exact i1 | exact n1) ?_))
  refine vp_loop_inv (fun s => s.tmp 0 = .sv (.int .i64 (a : Int)) ∧ s.tmp 1 = .sv (.int .i64 (b : Int)) ∧ s.tmp 3 = .sv (.int .i64 (w : Int)) ∧ s.tmp 6 = .ptr 6 0 0 ∧ s.obj 6 0 = some [.bool s0, natV n0, natV d0] ∧ s.tmp 8 = .ptr 8 0 0 ∧ s.obj 8 0 = some [.bool false, .sl 0 [], .bool false, .sl 0 []] ∧
      s.tmp 9 = .ptr 9 0 0 ∧ s.obj 9 0 = some [.bool false, natV (lim y1), .bool false, natV (lim y2)] ∧ s.tmp 11 = .ptr 11 0 0 ∧ s.tmp 12 = .ptr 12 0 0 ∧
      ∃ f k t1 t2 s1 s2 : Nat, s.tmp 13 = .sv (.int .i64 (k : Int)) ∧ f + k = b + 1401 ∧ refGo w y1 y2 a b x f k t1 t2 s1 s2 = some (A, B, K) ∧ s.obj 11 0 = some [.bool false, natV (lim s1), .bool false, natV (lim s2)] ∧ s.obj 12 0 = some [.bool false, natV (lim t1), .bool false, natV (lim t2)] ∧ okR w b k t1 t2 s1 s2)
    (fun s => match s.tmp 13 with | .sv (.int _ i) => b + 1402 - i.toNat | _ => 0) ⟨rfl, rfl, rfl, rfl, rfl, rfl, rfl, rfl, rfl, rfl, rfl, _, 0, _, _, _, _, rfl, by omega, hg, rfl, rfl, ok⟩ ?_
  rintro s ⟨i0, i1, i3, i6, o6, i8, o8, i9, o9, i11, i12, f, k, t1, t2, s1, s2, i13, hfk, hgo, o11, o12, hok⟩
  obtain ⟨lt1, lt2, la1, la2⟩ := lens k t1 t2 s1 s2 (by omega) hok
  have st := step k t1 t2 s1 s2 hok
  cases f with
  | zero => simp only [refGo] at hgo; cases hgo
  | succ f =>
    obtain ⟨lu1, lu2, lb1, lb2⟩ := lens (k + 1) _ _ _ _ (by omega) st
    have pr := ref4_ProdN (a := t1) (b := t2) (c := y1) (d := y2) (w := w) hok.1 y12 (by omega) (by omega) (by omega) (by omega)
    have P : 0 < 2 ^ w := Nat.pow_pos (by omega)
    have v12 : t1 * y1 / 2 ^ w ≤ cdv (t2 * y2) (2 ^ w) := div_le_cdv P (Nat.mul_le_mul hok.1 y12)
    have v2 : cdv (t2 * y2) (2 ^ w) ≤ t2 := cdv_le P (Nat.mul_le_mul_left _ yT)
    have lv2 := lim_len_mono v2
    have lv1 := lim_len_mono v12
    have lq1 : (lim (a + b + 2 * k)).length ≤ 1 := lim_len_one (by omega)
    have z1 := lim_len_mul (a := t1 * y1 / 2 ^ w) (b := a + b + 2 * k)
    have z2 := lim_len_mul (a := cdv (t2 * y2) (2 ^ w)) (b := a + b + 2 * k)
    have of := ref4_OftenN (a := t1 * y1 / 2 ^ w) (b := cdv (t2 * y2) (2 ^ w)) (n := a + b + 2 * k) (by omega) (by omega) (by omega)
    have by1 := ref4_ByN (a := t1 * y1 / 2 ^ w * (a + b + 2 * k)) (b := cdv (t2 * y2) (2 ^ w) * (a + b + 2 * k)) (n := a + 2 + 2 * k) (by omega) (by omega) (by omega) (by omega)
    have u12 := st.1
    rw [refGo] at hgo
    generalize t1 * y1 / 2 ^ w = v1 at *
    generalize cdv (t2 * y2) (2 ^ w) = v2' at *
    generalize v1 * (a + b + 2 * k) / (a + 2 + 2 * k) = u1 at *
    generalize cdv (v2' * (a + b + 2 * k)) (a + 2 + 2 * k) = u2 at *
    have sm := ref4_SumNN (a := s1) (b := s2) (c := u1) (d := u2) (by omega) (by omega) (by omega) (by omega)
    have mo := ref4_MostN (a := u1) (b := u2) u12 (by omega)
    have cc := ref4_MostN8 (b := u2) (by omega)
    have ec : decide (cmpZ ((u2 : Nat) : Int) ((8 : Nat) : Int) ≤ 0) = decide (u2 ≤ 8) := by rw [cmpZ_le]; exact decide_eq_decide.2 (by omega)
    generalize cmpZ ((u2 : Nat) : Int) ((8 : Nat) : Int) = z at *
    have j1 := ref2_Int ((4 * (a + b + 2 * k + 2) : Nat) : Int) (by omega)
    have mu := ref2_Mul (show RatA (ratV s0 n0 d0) x L from ⟨s0, n0, d0, rfl, hv2⟩) (RatA_rv (int_szR (n := ((4 * (a + b + 2 * k + 2) : Nat) : Int)) (by omega))) (by omega) (by omega) (by omega)
    have zm := szR_mul zx (int_szR (n := ((4 * (a + b + 2 * k + 2) : Nat) : Int)) (by omega)) (by omega)
    have j2 := ref2_Int ((3 * (a + 4 + 2 * k) : Nat) : Int) (by omega)
    have cm := ref2_Cmp (RatA_rv zm) (RatA_rv (int_szR (n := ((3 * (a + 4 + 2 * k) : Nat) : Int)) (by omega))) (by omega) (by omega) (by omega)
    have ex : decide (cmpR (x * (((4 * (a + b + 2 * k + 2) : Nat) : Int) : Rat)) (((3 * (a + 4 + 2 * k) : Nat) : Int) : Rat) ≤ 0) = decide (x * (((4 * (a + b + 2 * k + 2) : Nat) : Int) : Rat) ≤ (((3 * (a + 4 + 2 * k) : Nat) : Int) : Rat)) := cmpR_le
    generalize cmpR (x * (((4 * (a + b + 2 * k + 2) : Nat) : Int) : Rat)) (((3 * (a + 4 + 2 * k) : Nat) : Int) : Rat) = zc at *
    generalize hX1 : x * (((4 * (a + b + 2 * k + 2) : Nat) : Int) : Rat) = X1 at *
    generalize hX2 : ((4 * (a + b + 2 * k + 2) : Nat) : Int) = N1 at *
    generalize hX3 : ((3 * (a + 4 + 2 * k) : Nat) : Int) = N2 at *
    have wd := ref4_WideN (a := s1 + u1) (b := s2 + u2) (n := 64) (by omega) (by omega) (by have := st.2.2.1; omega) (by omega)
    generalize hR1 : (N1 : Rat) = N1R at *
    generalize hR2 : (N2 : Rat) = N2R at *
    rw [← hX2, show ((4 * (a + b + 2 * k + 2) : Nat) : Int) = 4 * ((a : Int) + (b : Int) + 2 * (k : Int) + 2) by omega] at j1
    rw [← hX3, show ((3 * (a + 4 + 2 * k) : Nat) : Int) = 3 * ((a : Int) + 4 + 2 * (k : Int)) by omega] at j2
    clear lens step hg hX1 hX2 hX3 hR1 hR2 v12 u12 z1 z2
    rw [show ((a + b + 2 * k : Nat) : Int) = (a : Int) + (b : Int) + 2 * (k : Int) by omega] at of
    rw [show ((a + 2 + 2 * k : Nat) : Int) = (a : Int) + 2 + 2 * (k : Int) by omega] at by1
    by_cases hu : u2 ≤ 8
    · rw [decide_eq_true hu] at ec
      by_cases hx : X1 ≤ N2R
      · rw [decide_eq_true hx] at ex
        rw [if_pos ⟨hu, hx⟩] at hgo
        simp only [Option.some.injEq, Prod.mk.injEq] at hgo
        obtain ⟨rfl, rfl, rfl⟩ := hgo
        repeat (first | (simp only [go_sem, Nat.reduceEqDiff, Nat.reduceAdd, Nat.reduceSub, Nat.reduceMul, Nat.reduceLeDiff, Nat.reduceLT, reduceIte, reduceCtorEq, Nat.succ_ne_zero, elemsC, Int.reduceToNat, Nat.reducePow, i0, i1, i3, i6, o6, i8, o8, i9, o9, i11, i12, i13, o11, o12, ec, ex]) | (simp (disch := (first | omega | (simp only [AL, List.length_map]; omega))) only [AR, AL, ifT, ifF, take_all, List.length_cons, List.length_nil, Int.reduceToNat, Int.reducePow, Nat.reducePow, i0, i1, i3, i6, o6, i8, o8, i9, o9, i11, i12, i13, o11, o12, ec, ex]) | (refine wk_intro (by kernel_rfl) ?_) | (refine vp_draw (id := 3) (l := []) (by kernel_rfl) ?_) | (refine vp_draw (id := 8) (l := []) (by kernel_rfl) ?_) | (refine vp_draw (id := 9) (l := []) (by kernel_rfl) ?_) | (refine vf_of (by first | exact pr | exact of | exact by1 | exact sm | exact j1 | exact mu | exact mo | exact w8 | exact cc | exact j2 | exact cm | exact wd) ?_))
      · rw [decide_eq_false hx] at ex
        rw [if_neg (fun h => hx h.2)] at hgo
        repeat (first | (simp only [go_sem, Nat.reduceEqDiff, Nat.reduceAdd, Nat.reduceSub, Nat.reduceMul, Nat.reduceLeDiff, Nat.reduceLT, reduceIte, reduceCtorEq, Nat.succ_ne_zero, elemsC, Int.reduceToNat, Nat.reducePow, i0, i1, i3, i6, o6, i8, o8, i9, o9, i11, i12, i13, o11, o12, ec, ex]) | (simp (disch := (first | omega | (simp only [AL, List.length_map]; omega))) only [AR, AL, ifT, ifF, take_all, List.length_cons, List.length_nil, Int.reduceToNat, Int.reducePow, Nat.reducePow, i0, i1, i3, i6, o6, i8, o8, i9, o9, i11, i12, i13, o11, o12, ec, ex]) | (refine wk_intro (by kernel_rfl) ?_) | (refine vp_draw (id := 3) (l := []) (by kernel_rfl) ?_) | (refine vp_draw (id := 8) (l := []) (by kernel_rfl) ?_) | (refine vp_draw (id := 9) (l := []) (by kernel_rfl) ?_) | (refine vf_of (by first | exact pr | exact of | exact by1 | exact sm | exact j1 | exact mu | exact mo | exact w8 | exact cc | exact j2 | exact cm) ?_))
        exact ⟨⟨f, k + 1, u1, u2, s1 + u1, s2 + u2, rfl, by omega, hgo, rfl, rfl, st⟩, by omega⟩
    · rw [decide_eq_false hu] at ec
      rw [if_neg (fun h => hu h.1)] at hgo
      repeat (first | (simp only [go_sem, Nat.reduceEqDiff, Nat.reduceAdd, Nat.reduceSub, Nat.reduceMul, Nat.reduceLeDiff, Nat.reduceLT, reduceIte, reduceCtorEq, Nat.succ_ne_zero, elemsC, Int.reduceToNat, Nat.reducePow, i0, i1, i3, i6, o6, i8, o8, i9, o9, i11, i12, i13, o11, o12, ec]) | (simp (disch := (first | omega | (simp only [AL, List.length_map]; omega))) only [AR, AL, ifT, ifF, take_all, List.length_cons, List.length_nil, Int.reduceToNat, Int.reducePow, Nat.reducePow, i0, i1, i3, i6, o6, i8, o8, i9, o9, i11, i12, i13, o11, o12, ec]) | (refine wk_intro (by kernel_rfl) ?_) | (refine vp_draw (id := 3) (l := []) (by kernel_rfl) ?_) | (refine vp_draw (id := 8) (l := []) (by kernel_rfl) ?_) | (refine vp_draw (id := 9) (l := []) (by kernel_rfl) ?_) | (refine vf_of (by first | exact pr | exact of | exact by1 | exact sm | exact j1 | exact mu | exact mo | exact w8 | exact cc) ?_))
      exact ⟨⟨f, k + 1, u1, u2, s1 + u1, s2 + u2, rfl, by omega, hgo, rfl, rfl, st⟩, by omega⟩
end
end Go.Proofs.YtecjelnpmcnbaaaGreat
namespace Go.Proofs.YtecjelnpmcnbaaaGreat
open Go.Ev
theorem ref9_product (a b c : Nat) (to : Int) (ha : 1 ≤ a) (hb : 1 ≤ b) (h1 : c = 0 ∨ ((a + (c - 1) * b : Nat) : Int) ≤ to) (h2 : to < ((a + c * b : Nat) : Int)) (hto : to ≤ 1073741824) (hto0 : -9223372036854775808 ≤ to) (hc : c ≤ 1048576) (hab : a ≤ 1073741824) (hbb : b ≤ 1073741824) :
    Go.Ev.Fn CX 212 [.int .i64 (a : Int), .int .i64 to, .int .i64 (b : Int)] (natV (lim (prodN a b c))) := by
  have hle : ∀ i, i < c → ((a + i * b : Nat) : Int) ≤ to := by
    intro i hi
    rcases h1 with h | h
    · omega
    · have : i * b ≤ (c - 1) * b := Nat.mul_le_mul_right _ (by omega)
      omega
  have hlen : ∀ i, i ≤ c → (lim (prodN a b i)).length ≤ i + 1 := fun i hi => prodN_len fun j hj => by have := hle j (by omega); omega
  refine Go.Ev.Fn.intro (fn := Tryz.f212) (body := (Tryz.f212).body.get!) (by kernel_rfl) (by kernel_rfl) (by kernel_rfl) (fun _ => rfl) (Nat.le_of_ble_eq_true (by kernel_rfl)) ?_; unfold Tryz.f212; simp only [Option.get!_some]
  repeat (first | (simp only [go_sem, Nat.reduceEqDiff, Nat.reduceAdd, Nat.reduceSub, Nat.reduceMul, Nat.reduceLeDiff, Nat.reduceLT, reduceIte, reduceCtorEq, Nat.succ_ne_zero, elemsC, Int.reduceToNat, Nat.reducePow]) | (simp (disch := (first | omega | (simp only [AL, List.length_map]; omega))) only [AR, AL, ifT, ifF, take_all, List.length_cons, List.length_nil, Int.reduceToNat, Int.reducePow, Nat.reducePow]) | (refine wk_intro (by kernel_rfl) ?_))
  refine vp_loop_inv (fun s => s.tmp 1 = .sv (.int .i64 to) ∧ s.tmp 2 = .sv (.int .i64 (b : Int)) ∧ ∃ i : Nat, s.tmp 8 = .sv (.int .i64 ((a + i * b : Nat) : Int)) ∧ RowL s 7 9 (prodN a b i) ∧ i ≤ c)
    (fun s => match s.tmp 8 with | .sv (.int _ n) => (to + 1 - n).toNat | _ => 0) ⟨rfl, rfl, 0, by rw [Nat.zero_mul, Nat.add_zero]; rfl, .inr ⟨rfl, rfl, rfl⟩, by omega⟩ ?_
  rintro s ⟨i1, i2, i, i8, hR, hi⟩
  by_cases hend : i = c
  · subst hend
    have hlt : ¬ ((a + i * b : Nat) : Int) ≤ to := by omega
    rcases hR with i7 | ⟨hv, i7, iO⟩
    · repeat (first | (simp only [go_sem, Nat.reduceEqDiff, Nat.reduceAdd, Nat.reduceSub, Nat.reduceMul, Nat.reduceLeDiff, Nat.reduceLT, reduceIte, reduceCtorEq, Nat.succ_ne_zero, elemsC, Int.reduceToNat, Nat.reducePow, i1, i2, i8, i7]) | (simp (disch := (first | omega | (simp only [AL, List.length_map]; omega))) only [AR, AL, ifT, ifF, take_all, List.length_cons, List.length_nil, Int.reduceToNat, Int.reducePow, Nat.reducePow, i1, i2, i8, i7]) | (refine wk_intro (by kernel_rfl) ?_))
    · rw [hv, lim_one]
      repeat (first | (simp only [go_sem, Nat.reduceEqDiff, Nat.reduceAdd, Nat.reduceSub, Nat.reduceMul, Nat.reduceLeDiff, Nat.reduceLT, reduceIte, reduceCtorEq, Nat.succ_ne_zero, elemsC, Int.reduceToNat, Nat.reducePow, i1, i2, i8, i7]) | (simp (disch := (first | omega | (simp only [AL, List.length_map]; omega))) only [AR, AL, ifT, ifF, take_all, List.length_cons, List.length_nil, Int.reduceToNat, Int.reducePow, Nat.reducePow, i1, i2, i8, i7]) | (refine wk_intro (by kernel_rfl) ?_))
      exact ro_ref (cs := [.int .u32 1]) (by decide) iO rfl
  · have h3 := hle i (by omega)
    have hl := hlen i hi
    have oN := ref1_Of (a + i * b) (by omega)
    have hl2 := lim_len_one (a := a + i * b) (by omega)
    have hn : a + (i + 1) * b = a + i * b + b := by rw [Nat.add_mul, Nat.one_mul, Nat.add_assoc]
    have hnew : prodN a b (i + 1) = prodN a b i * (a + i * b) := rfl
    generalize hv : a + i * b = v at *
    have hM := ref1_MulL (N := prodN a b i) (D := v) (by omega) (by omega)
    rcases hR with i7 | ⟨hv1, i7, iO⟩
    · repeat (first | (simp only [go_sem, Nat.reduceEqDiff, Nat.reduceAdd, Nat.reduceSub, Nat.reduceMul, Nat.reduceLeDiff, Nat.reduceLT, reduceIte, reduceCtorEq, Nat.succ_ne_zero, elemsC, Int.reduceToNat, Nat.reducePow, i1, i2, i8, i7]) | (simp (disch := (first | omega | (simp only [AL, List.length_map]; omega))) only [AR, AL, ifT, ifF, take_all, List.length_cons, List.length_nil, Int.reduceToNat, Int.reducePow, Nat.reducePow, i1, i2, i8, i7]) | (refine wk_intro (by kernel_rfl) ?_))
      repeat (first | (simp only [go_sem, Nat.reduceEqDiff, Nat.reduceAdd, Nat.reduceSub, Nat.reduceMul, Nat.reduceLeDiff, Nat.reduceLT, reduceIte, reduceCtorEq, Nat.succ_ne_zero, elemsC, Int.reduceToNat, Nat.reducePow, i1, i2, i8, i7]) | (simp (disch := (first | omega | (simp only [AL, List.length_map]; omega))) only [AR, AL, ifT, ifF, take_all, List.length_cons, List.length_nil, Int.reduceToNat, Int.reducePow, Nat.reducePow, i1, i2, i8, i7]) | (refine wk_intro (by kernel_rfl) ?_) | (refine vf_of (by first | exact oN | exact hM) ?_))
      refine ⟨⟨i + 1, by rw [hn], .inl (by rw [hnew]; rfl), by omega⟩, by omega⟩
    · rw [hv1, lim_one] at hM
      repeat (first | (simp only [go_sem, Nat.reduceEqDiff, Nat.reduceAdd, Nat.reduceSub, Nat.reduceMul, Nat.reduceLeDiff, Nat.reduceLT, reduceIte, reduceCtorEq, Nat.succ_ne_zero, elemsC, Int.reduceToNat, Nat.reducePow, i1, i2, i8, i7, iO, N0]) | (simp (disch := (first | omega | (simp only [AL, List.length_map]; omega))) only [AR, AL, ifT, ifF, take_all, List.length_cons, List.length_nil, Int.reduceToNat, Int.reducePow, Nat.reducePow, i1, i2, i8, i7, iO, N0]) | (refine wk_intro (by kernel_rfl) ?_) | (refine vf_of (by first | exact oN | exact hM) ?_))
      refine ⟨⟨i + 1, by rw [hn], .inl (by rw [hnew, hv1]; rfl), by omega⟩, by omega⟩
def capN (n : Int) : Nat := (if 512 < n then 512 else n).toNat
theorem fac_len {k : Nat} (h : k ≤ 1048576) : (lim (facN k)).length ≤ k + 1 := prodN_len fun i hi => by omega
theorem ref9_Factorial (n : Int) (hn : -9223372036854775808 ≤ n) : Go.Ev.Fn CX 211 [.int .i64 n] (rv (facN (capN n) : Rat)) := by
  have hcap : capN n ≤ 512 := by unfold capN; split <;> omega
  have hr := ref9_product 1 1 (capN n) (if 512 < n then 512 else n) (by omega) (by omega) (by unfold capN; split <;> omega) (by unfold capN; split <;> omega) (by split <;> omega) (by split <;> omega) (by omega) (by omega) (by omega)
  have hl := fac_len (k := capN n) (by omega)
  have hOf := ref2_OfL (s := false) (n := facN (capN n)) (d := 1) (by omega) (by have := lim_len1; omega)
  rw [show mkRat (sgn false (facN (capN n))) 1 = (facN (capN n) : Rat) from Rat.mkRat_one _, lim_one] at hOf
  refine Go.Ev.Fn.intro (fn := Tryz.f211) (body := (Tryz.f211).body.get!) (by kernel_rfl) (by kernel_rfl) (by kernel_rfl) (fun _ => rfl) (Nat.le_of_ble_eq_true (by kernel_rfl)) ?_; unfold Tryz.f211; simp only [Option.get!_some]
  repeat (first | (simp only [go_sem, Nat.reduceEqDiff, Nat.reduceAdd, Nat.reduceSub, Nat.reduceMul, Nat.reduceLeDiff, Nat.reduceLT, reduceIte, reduceCtorEq, Nat.succ_ne_zero, elemsC, Int.reduceToNat, Nat.reducePow]) | (simp (disch := (first | omega | (simp only [AL, List.length_map]; omega))) only [AR, AL, ifT, ifF, take_all, List.length_cons, List.length_nil, Int.reduceToNat, Int.reducePow, Nat.reducePow]) | (refine wk_intro (by kernel_rfl) ?_) | (refine vf_of (by first | exact hr | exact hOf) ?_))
theorem prod_odd {n : Nat} (h : n % 2 = 1) : prodN 1 2 ((n - 1) / 2) = prodN 3 2 ((n - 3) / 2) := by
  rcases Nat.lt_or_ge n 3 with h1 | h1
  · obtain rfl : n = 1 := by omega
    rfl
  · obtain ⟨k, hk⟩ : ∃ k, (n - 1) / 2 = k + 1 := ⟨(n - 3) / 2, by omega⟩
    rw [hk, prodN_front, Nat.one_mul, show (n - 3) / 2 = k by omega]
theorem ref9_Half (n : Nat) (h1 : 1 ≤ n) (h : n ≤ 512) : Go.Ev.Fn CX 180 [.int .i64 (n : Int)] (.tup [rv (gam2 n), .int .i64 (n % 2 : Nat), .bool true]) := by
  have hu : (n : Int).tmod 2 = ((n % 2 : Nat) : Int) := rfl
  have hd : ((n : Int)).tdiv 2 = ((n / 2 : Nat) : Int) := rfl
  by_cases h0 : n % 2 = 0
  · have hF := ref9_Factorial ((n / 2 - 1 : Nat) : Int) (by omega)
    rw [show capN ((n / 2 - 1 : Nat) : Int) = n / 2 - 1 by unfold capN; rw [if_neg (by omega)]; omega, ← facN_two, show n / 2 - 1 - 1 = n / 2 - 2 by omega] at hF
    rw [show gam2 n = ((prodN 2 1 (n / 2 - 2) : Nat) : Rat) from if_pos h0, h0]
    rw [h0] at hu
    refine Go.Ev.Fn.intro (fn := Tryz.f180) (body := (Tryz.f180).body.get!) (by kernel_rfl) (by kernel_rfl) (by kernel_rfl) (fun _ => rfl) (Nat.le_of_ble_eq_true (by kernel_rfl)) ?_; unfold Tryz.f180; simp only [Option.get!_some]
    repeat (first | (simp only [go_sem, Nat.reduceEqDiff, Nat.reduceAdd, Nat.reduceSub, Nat.reduceMul, Nat.reduceLeDiff, Nat.reduceLT, reduceIte, reduceCtorEq, Nat.succ_ne_zero, elemsC, Int.reduceToNat, Nat.reducePow, hu, hd]) | (simp (disch := (first | omega | (simp only [AL, List.length_map]; omega))) only [AR, AL, ifT, ifF, take_all, List.length_cons, List.length_nil, Int.reduceToNat, Int.reducePow, Nat.reducePow, hu, hd]) | (refine wk_intro (by kernel_rfl) ?_) | (refine vf_of (by first | exact hF) ?_))
    rfl
  · have hr := ref9_product 1 2 ((n - 1) / 2) ((n : Int) - 2) (by omega) (by omega) (by omega) (by omega) (by omega) (by omega) (by omega) (by omega) (by omega)
    have hl := prodN_len (a := 3) (b := 2) (c := (n - 3) / 2) (fun i hi => by omega)
    have h01 : n % 2 = 1 := by omega
    rw [prod_odd h01] at hr
    have hS := ref1_shift_up [1] (n / 2) (by simp [okL]) (by simp) ((n / 2 : Nat) : Int) rfl (by omega)
    rw [show wth [1] = 1 from rfl, Nat.one_mul] at hS
    have hp := pow_len (n / 2)
    have hOf := ref2_OfL (s := false) (n := prodN 3 2 ((n - 3) / 2)) (d := 2 ^ (n / 2)) (by omega) (by omega)
    rw [show gam2 n = mkRat (prodN 3 2 ((n - 3) / 2) : Nat) (2 ^ (n / 2)) from if_neg h0, h01]
    rw [h01] at hu
    refine Go.Ev.Fn.intro (fn := Tryz.f180) (body := (Tryz.f180).body.get!) (by kernel_rfl) (by kernel_rfl) (by kernel_rfl) (fun _ => rfl) (Nat.le_of_ble_eq_true (by kernel_rfl)) ?_; unfold Tryz.f180; simp only [Option.get!_some]
    repeat (first | (simp only [go_sem, Nat.reduceEqDiff, Nat.reduceAdd, Nat.reduceSub, Nat.reduceMul, Nat.reduceLeDiff, Nat.reduceLT, reduceIte, reduceCtorEq, Nat.succ_ne_zero, elemsC, Int.reduceToNat, Nat.reducePow, hu, hd]) | (simp (disch := (first | omega | (simp only [AL, List.length_map]; omega))) only [AR, AL, ifT, ifF, take_all, List.length_cons, List.length_nil, Int.reduceToNat, Int.reducePow, Nat.reducePow, hu, hd]) | (refine wk_intro (by kernel_rfl) ?_) | (refine vf_of (by first | exact hr | exact hS | exact hOf) ?_))
    exact ⟨rfl, rfl⟩
theorem ref9_Beta (a b : Nat) (ha : 1 ≤ a) (ha2 : a ≤ 256) (hb : 1 ≤ b) (hb2 : b ≤ 256) : Go.Ev.Fn CX 139 [.int .i64 (a : Int), .int .i64 (b : Int)] (.tup [rv (beta2 a b), .int .i64 (a % 2 * (b % 2) : Nat), .bool true]) := by
  have g1 := ref9_Half a ha (by omega)
  have g2 := ref9_Half b hb (by omega)
  have g3 := ref9_Half (a + b) (by omega) (by omega)
  have z1 := gam2_size (n := a) (by omega)
  have z2 := gam2_size (n := b) (by omega)
  have z3 := gam2_size (n := a + b) (by omega)
  have m1 := ref2_Mul (RatA_rv z1) (RatA_rv z2) (by omega) (by omega) (by omega)
  have d1 := ref2_Div (RatA_rv (szR_mul z1 z2 (by omega))) (RatA_rv z3) (by omega) (by omega) (by omega)
  rw [decide_eq_true (gam2_pos (n := a + b)), show gam2 a * gam2 b / gam2 (a + b) = beta2 a b from rfl] at d1
  have e1 : ((a % 2 + b % 2 : Nat) : Int).tdiv 2 = ((a % 2 * (b % 2) : Nat) : Int) := by
    rw [show ((a % 2 + b % 2 : Nat) : Int).tdiv 2 = (((a % 2 + b % 2) / 2 : Nat) : Int) from rfl]
    rcases Nat.mod_two_eq_zero_or_one a with ha | ha <;> rcases Nat.mod_two_eq_zero_or_one b with hb | hb <;> rw [ha, hb]
  have hk : a % 2 * (b % 2) ≤ 1 := by
    rcases Nat.mod_two_eq_zero_or_one a with ha | ha <;> rcases Nat.mod_two_eq_zero_or_one b with hb | hb <;> rw [ha, hb] <;> decide
  generalize hx : a % 2 * (b % 2) = x at *
  refine Go.Ev.Fn.intro (fn := Tryz.f139) (body := (Tryz.f139).body.get!) (by kernel_rfl) (by kernel_rfl) (by kernel_rfl) (fun _ => rfl) (Nat.le_of_ble_eq_true (by kernel_rfl)) ?_; unfold Tryz.f139; simp only [Option.get!_some]
  repeat (first | (simp only [go_sem, Nat.reduceEqDiff, Nat.reduceAdd, Nat.reduceSub, Nat.reduceMul, Nat.reduceLeDiff, Nat.reduceLT, reduceIte, reduceCtorEq, Nat.succ_ne_zero, elemsC, Int.reduceToNat, Nat.reducePow, e1]) | (simp (disch := (first | omega | (simp only [AL, List.length_map]; omega))) only [AR, AL, ifT, ifF, take_all, List.length_cons, List.length_nil, Int.reduceToNat, Int.reducePow, Nat.reducePow, e1]) | (refine wk_intro (by kernel_rfl) ?_) | (refine vp_draw (id := 6) (l := []) (by kernel_rfl) ?_) | (refine vf_of (by first | exact g1 | exact g2 | exact g3 | exact m1 | exact d1) ?_))
end Go.Proofs.YtecjelnpmcnbaaaGreat
namespace Go.Proofs.YtecjelnpmcnbaaaGreat
open Go.Ev
def ivOk3 (w : Nat) : Bool := match piIv w with
  | some (lo, hi) => Nat.ble (2 ^ w) lo && Nat.ble hi (2 ^ (w + 3))
  | none => false
theorem iv_ok3 : allFrom ivOk3 201 340 = true := by kernel_rfl
theorem ref8_Pi2 {w : Nat} (h1 : 340 ≤ w) (h2 : w ≤ 540) : ∃ lo hi : Nat, Go.Ev.Fn CX 142 [.int .i64 (w : Int)] (ivN lo hi) ∧ Enc w lo hi PI0 ∧ 2 ^ w ≤ lo ∧ lo ≤ hi ∧ (lim hi).length ≤ 1000 := by
  have h := allFrom_at iv_ok2 w (by omega) (by omega)
  have h3 := allFrom_at iv_ok3 w h1 (by omega)
  unfold ivOk2 at h
  unfold ivOk3 at h3
  split at h
  · rename_i lo hi hpi
    rw [hpi] at h3
    rw [Bool.and_eq_true] at h
    have k1 := Nat.le_of_ble_eq_true h.1
    have k2 := Nat.le_of_ble_eq_true h.2
    have h4 : (Nat.ble (2 ^ w) lo && Nat.ble hi (2 ^ (w + 3))) = true := h3
    rw [Bool.and_eq_true] at h4
    have k3 : 2 ^ w ≤ lo := Nat.le_of_ble_eq_true h4.1
    have k4 := lim_len_p2 (Nat.le_of_ble_eq_true h4.2) (by omega)
    refine ⟨lo, hi, ref8_PiIv (by omega) hpi, ⟨pi_lo (by omega) k1, pi_hi (by omega) k2⟩, k3, Nat.le_of_mul_le_mul_right (Nat.le_trans k1 k2) (Nat.pow_pos (by omega)), by omega⟩
  · cases h
theorem ref4_InvN {a b w : Nat} (ha : 0 < a) (hab : a ≤ b) (hb : (lim b).length ≤ 100000) (hw : w ≤ 2000) : Go.Ev.Fn CX 141 [ivN a b, .int .i64 (w : Int)] (ivN (2 ^ (2 * w) / b) (cdv (2 ^ (2 * w)) a)) := by
  have p := ref4_pow2 (n := 2 * w) (by omega)
  have l := lim_len_shl (a := 1) (n := 2 * w)
  have l1 := lim_len1
  rw [Nat.one_mul] at l
  have f1 := ref4_Fall ((2 ^ (2 * w) : Nat) : Int) b (by omega) (by rw [Int.natAbs_natCast]; omega) (by omega)
  have f2 := ref4_Rise ((2 ^ (2 * w) : Nat) : Int) a (by omega) (by rw [Int.natAbs_natCast]; omega) (Nat.le_trans (lim_len_mono hab) (by omega))
  rw [cdZ_nat ha, intN_eq, intN_eq] at f2
  rw [← Int.natCast_ediv, intN_eq, intN_eq] at f1
  rw [show ((2 * w : Nat) : Int) = 2 * (w : Int) by omega] at p
  generalize 2 ^ (2 * w) / b = x at *
  generalize cdv (2 ^ (2 * w)) a = y at *
  generalize 2 ^ (2 * w) = P at *
  refine Go.Ev.Fn.intro (fn := Tryz.f141) (body := (Tryz.f141).body.get!) (by kernel_rfl) (by kernel_rfl) (by kernel_rfl) (fun _ => rfl) (Nat.le_of_ble_eq_true (by kernel_rfl)) ?_; unfold Tryz.f141; simp only [Option.get!_some]
  repeat (first | (simp only [go_sem, Nat.reduceEqDiff, Nat.reduceAdd, Nat.reduceSub, Nat.reduceMul, Nat.reduceLeDiff, Nat.reduceLT, reduceIte, reduceCtorEq, Nat.succ_ne_zero, elemsC, Int.reduceToNat, Nat.reducePow]) | (simp (disch := (first | omega | (simp only [AL, List.length_map]; omega))) only [AR, AL, ifT, ifF, take_all, List.length_cons, List.length_nil, Int.reduceToNat, Int.reducePow, Nat.reducePow]) | (refine wk_intro (by kernel_rfl) ?_) | (refine vp_draw (id := 2) (l := [13, 18]) (by kernel_rfl) ?_) | (refine vf_of (by first | exact p | exact f1 | exact f2) ?_))
theorem enc_invN {a b w : Nat} {q : Rat} (ha : 0 < a) (h : Enc w a b q) : Enc w (2 ^ (2 * w) / b) (cdv (2 ^ (2 * w)) a) (1 / q) := by
  obtain ⟨⟨k1, -⟩, q0⟩ := enc_inv ha h
  refine ⟨k1, ?_⟩
  have aR : (0 : Rat) < (a : Rat) := by exact_mod_cast ha
  have P := p2_pos w
  have g := cdv_geR (2 ^ (2 * w)) ha
  have e0 : ((2 ^ (2 * w) : Nat) : Rat) = p2 w * p2 w := by rw [← p2_plus, show w + w = 2 * w by omega]
  rw [e0] at g
  have iq : 1 / q * q = 1 := Rat.div_mul_cancel (by grind)
  have i0 : 0 ≤ 1 / q := by
    rcases Rat.le_total (a := 0) (b := 1 / q) with k | k
    · exact k
    · have := Rat.mul_le_mul_of_nonneg_right k (show 0 ≤ q by grind)
      grind
  generalize 1 / q = i at *
  refine le_by aR ?_
  have k1 := Rat.mul_le_mul_of_nonneg_left h.1 (show 0 ≤ i * p2 w from Rat.mul_nonneg i0 (by grind))
  have k2 : i * p2 w * (q * p2 w) = p2 w * p2 w := by
    have : i * p2 w * (q * p2 w) = i * q * (p2 w * p2 w) := by grind
    rw [this, iq, Rat.one_mul]
  grind
theorem sR_top2 {x : Rat} {a b K : Nat} (h0 : 0 ≤ x) (h1 : x + x ≤ 1) (hK : x * (((4 * (a + b + 2 * K) : Nat) : Int) : Rat) ≤ (((3 * (a + 2 + 2 * K) : Nat) : Int) : Rat)) (j : Nat) :
    sR x a b (K + j) + 3 * rR x a b (K + j) ≤ sR x a b K + 3 * rR x a b K ∧ x * (((4 * (a + b + 2 * (K + j)) : Nat) : Int) : Rat) ≤ (((3 * (a + 2 + 2 * (K + j)) : Nat) : Int) : Rat) := by
  induction j with
  | zero => exact ⟨Rat.le_refl, hK⟩
  | succ j ih =>
    obtain ⟨i1, i2⟩ := ih
    have M : (0 : Rat) < ((a + 2 + 2 * (K + j) : Nat) : Rat) := by exact_mod_cast (show 0 < a + 2 + 2 * (K + j) by omega)
    have e := rR_step (x := x) (a := a) (b := b) (K + j)
    have r0 := rR_nn (a := a) (b := b) h0 (K + j)
    have c1 : (((4 * (a + b + 2 * (K + j)) : Nat) : Int) : Rat) = 4 * ((a + b + 2 * (K + j) : Nat) : Rat) := by
      have : (((4 * (a + b + 2 * (K + j)) : Nat) : Int) : Rat) = ((4 * (a + b + 2 * (K + j)) : Nat) : Rat) := rfl
      rw [this]; exact_mod_cast rfl
    have c2 : (((3 * (a + 2 + 2 * (K + j)) : Nat) : Int) : Rat) = 3 * ((a + 2 + 2 * (K + j) : Nat) : Rat) := by
      have : (((3 * (a + 2 + 2 * (K + j)) : Nat) : Int) : Rat) = ((3 * (a + 2 + 2 * (K + j)) : Nat) : Rat) := rfl
      rw [this]; exact_mod_cast rfl
    have c3 : (((4 * (a + b + 2 * (K + (j + 1))) : Nat) : Int) : Rat) = 4 * ((a + b + 2 * (K + j) : Nat) : Rat) + 8 := by
      have : (((4 * (a + b + 2 * (K + (j + 1))) : Nat) : Int) : Rat) = ((4 * (a + b + 2 * (K + j)) + 8 : Nat) : Rat) := by congr 2
      rw [this]; exact_mod_cast rfl
    have c4 : (((3 * (a + 2 + 2 * (K + (j + 1))) : Nat) : Int) : Rat) = 3 * ((a + 2 + 2 * (K + j) : Nat) : Rat) + 6 := by
      have : (((3 * (a + 2 + 2 * (K + (j + 1))) : Nat) : Int) : Rat) = ((3 * (a + 2 + 2 * (K + j)) + 6 : Nat) : Rat) := by congr 2
      rw [this]; exact_mod_cast rfl
    rw [c1, c2] at i2
    refine ⟨?_, by rw [c3, c4]; grind⟩
    refine Rat.le_trans ?_ i1
    show sR x a b (K + j) + rR x a b (K + j + 1) + 3 * rR x a b (K + j + 1) ≤ _
    have key : 4 * rR x a b (K + j + 1) ≤ 3 * rR x a b (K + j) := by
      clear i1 c1 c2 c3 c4 hK
      generalize ((a + 2 + 2 * (K + j) : Nat) : Rat) = m at *
      generalize ((a + b + 2 * (K + j) : Nat) : Rat) = n at *
      generalize rR x a b (K + j + 1) = r' at *
      generalize rR x a b (K + j) = r at *
      refine le_by M ?_
      have k1 := Rat.mul_le_mul_of_nonneg_left i2 r0
      have e1 : 4 * r' * m = r * (x * (4 * n)) := by
        have : 4 * r' * m = 4 * (r' * m) := by grind
        rw [this, e]; grind
      rw [e1]
      have e2 : 3 * r * m = r * (3 * m) := by grind
      rw [e2]; exact k1
    grind
theorem quo_is {r : Rat} {a : Nat} (h : 0 < r.num.natAbs * a) (hr : 0 ≤ r) : 2 / (r * ((a : Int) : Rat)) = ((r.den * 2 : Nat) : Rat) / ((r.num.natAbs * a : Nat) : Rat) := by
  have N : (0 : Rat) < ((r.num.natAbs * a : Nat) : Rat) := by exact_mod_cast h
  have D : (0 : Rat) < (r.den : Rat) := by exact_mod_cast r.den_pos
  have h2 : ((r.num.natAbs : Nat) : Rat) = r * (r.den : Rat) := by
    rw [num_den r, ← num_abs hr]; rfl
  have c1 : ((r.num.natAbs * a : Nat) : Rat) = r * (r.den : Rat) * (a : Rat) := by rw [← h2]; exact_mod_cast rfl
  have c2 : ((r.den * 2 : Nat) : Rat) = (r.den : Rat) * 2 := by exact_mod_cast rfl
  have ca : (((a : Int)) : Rat) = (a : Rat) := rfl
  rw [c1] at N
  rw [c1, c2, ca]
  generalize (r.den : Rat) = d at *
  generalize (a : Rat) = x at *
  have nz : r * x ≠ 0 := by
    intro e
    have : r * d * x = r * x * d := by grind
    rw [this, e] at N
    grind
  have e1 := Rat.div_mul_cancel (a := 2) (b := r * x) nz
  have e2 := Rat.div_mul_cancel (a := d * 2) (b := r * d * x) (by grind)
  generalize 2 / (r * x) = u at *
  generalize d * 2 / (r * d * x) = v at *
  have e3 : (u - v) * (r * d * x) = 0 := by grind
  rcases Rat.mul_eq_zero.1 e3 with g | g
  · grind
  · grind
end Go.Proofs.YtecjelnpmcnbaaaGreat
namespace Go.Proofs.YtecjelnpmcnbaaaGreat
open Go.Ev
theorem cdv_self (a : Nat) {d : Nat} (hd : 0 < d) : cdv a d ≤ a := cdv_le hd (Nat.le_mul_of_pos_right _ hd)
theorem prod_le {b d w x y : Nat} (h1 : b ≤ 2 ^ x) (h2 : d ≤ 2 ^ (w + y)) : cdv (b * d) (2 ^ w) ≤ 2 ^ (x + y) := by
  refine cdv_le (Nat.pow_pos (by omega)) ?_
  have := Nat.mul_le_mul h1 h2
  rw [← Nat.pow_add] at this
  rw [← Nat.pow_add, show x + y + w = x + (w + y) by omega]
  exact this
theorem gam2_nn (n : Nat) : 0 ≤ gam2 n := by
  unfold gam2
  split
  · exact nat_nonneg _
  · have P := p2_pos (n / 2)
    exact le_by P (by rw [mk_p2n, Rat.zero_mul]; exact nat_nonneg _)
theorem beta2_nn (a b : Nat) : 0 ≤ beta2 a b := by
  unfold beta2
  have h := gam2_nn (a + b)
  have h2 : 0 < gam2 (a + b) := by have := gam2_pos (n := a + b); grind
  rw [Rat.div_def]
  exact Rat.mul_nonneg (Rat.mul_nonneg (gam2_nn a) (gam2_nn b)) (by have := Rat.inv_pos.2 h2; grind)
theorem enc_backN {w A B n : Nat} {q : Rat} (h : Enc (w + n) A B q) : Enc w (A / 2 ^ n) (cdv B (2 ^ n)) q := by
  have P := p2_pos n
  have f := floor_le (a := A) (d := 2 ^ n)
  have g := cdv_geR B (show 0 < 2 ^ n from Nat.pow_pos (by omega))
  obtain ⟨h1, h2⟩ := h
  rw [p2_plus] at h1 h2
  refine ⟨le_by P ?_, le_by P ?_⟩
  · have e : q * p2 w * p2 n = q * (p2 w * p2 n) := by grind
    rw [e]; exact Rat.le_trans f h1
  · have e : q * p2 w * p2 n = q * (p2 w * p2 n) := by grind
    rw [e]; exact Rat.le_trans h2 g
section
variable {v : SV} {x : Rat} {w L a b : Nat}
set_option maxHeartbeats 2000000 in
theorem ref12_core (hv : RatA v x L) (hL1 : 1 ≤ L) (hL : L ≤ 8) (ha : 1 ≤ a) (ha2 : a ≤ 20) (hb : 1 ≤ b) (hb2 : b ≤ 20) (h0 : 0 ≤ x) (h1 : x + x ≤ 1) (hw0 : 40 ≤ w) (hw : w ≤ 200) :
    ∃ A B K : Nat, ∃ p1 p2' q1 q2 : Rat, Go.Ev.Fn CX 99 [.int .i64 (a : Int), .int .i64 (b : Int), v, .int .i64 (w : Int)] (ivN A B) ∧ A ≤ B ∧ B ≤ 2 ^ (w + 400) ∧
      0 ≤ p1 ∧ p1 * p1 ≤ x ∧ 0 ≤ p2' ∧ x ≤ p2' * p2' ∧ 0 ≤ q1 ∧ q1 * q1 ≤ 1 - x ∧ 0 ≤ q2 ∧ 1 - x ≤ q2 * q2 ∧
      ∀ sx sy, p1 ≤ sx → sx ≤ p2' → q1 ≤ sy → sy ≤ q2 → ∀ M, K ≤ M → Enc w A B (fstR a b x sx sy * sR x a b M) := by
  obtain ⟨W, hW, hw1, hw2, hwi⟩ : ∃ W : Nat, (∀ Q : Nat → Prop, Q W → Q (w + 300)) ∧ 340 ≤ W ∧ W ≤ 500 ∧ (w : Int) + 300 = (W : Int) := ⟨w + 300, fun Q h => h, by omega, by omega, rfl⟩
  have zx := szR_of hv hL1
  have zy := szR_sub one_szR' zx (by omega)
  have hP : 2 ^ 60 ≤ 2 ^ W := Nat.pow_le_pow_right (n := 2) (by omega) (by omega)
  obtain ⟨X1, X2, p1, p2', fx, x1, x2, a0, a1, a2, a3, ex⟩ := ref12_power (n := a) (w := W) hv hL1 (by omega) h0 (show x ≤ 1 by clear hW; grind) (by omega) (by omega) (by omega)
  obtain ⟨Y1, Y2, q1, q2, fy, y1, y2, b0, b1, b2, b3, ey⟩ := ref12_power (n := b) (w := W) (RatA_rv zy) (by omega) (by omega) (show 0 ≤ 1 - x by clear fx ex; grind) (show 1 - x ≤ 1 by clear fx ex; grind) (by omega) (by omega) (by omega)
  obtain ⟨A0, B0, K, fr, r1, r2, r3, r4, r5⟩ := ref12_row (w := W) hv hL1 (by omega) ha ha2 hb hb2 h0 h1 (by omega) (by omega)
  have er : ∀ M, K ≤ M → Enc W A0 B0 (sR x a b M) := by
    intro M hM
    have P := p2_pos W
    obtain ⟨j, rfl⟩ := Nat.exists_eq_add_of_le hM
    refine ⟨Rat.le_trans r3 (Rat.mul_le_mul_of_nonneg_right (sR_up h0 hM) (Rat.le_of_lt P)), Rat.le_trans (Rat.mul_le_mul_of_nonneg_right ?_ (Rat.le_of_lt P)) r4⟩
    have := (sR_top2 h0 h1 r5 j).1
    have n := rR_nn (a := a) (b := b) h0 (K + j)
    grind
  have hp1 : 2 ^ (W + 1) = 2 * 2 ^ W := by rw [Nat.pow_succ, Nat.mul_comm]
  have X2' : X2 ≤ 2 ^ (W + 1) := by omega
  have Y2' : Y2 ≤ 2 ^ (W + 1) := by omega
  have lX2 := lim_len_p2 X2' (by omega)
  have lY2 := lim_len_p2 Y2' (by omega)
  have pr1 := ref4_ProdN (a := X1) (b := X2) (c := Y1) (d := Y2) (w := W) x1 y1 (by omega) (by omega) (by omega) (by omega)
  have P0 : 0 < 2 ^ W := Nat.pow_pos (by omega)
  have m12 : X1 * Y1 / 2 ^ W ≤ cdv (X2 * Y2) (2 ^ W) := div_le_cdv P0 (Nat.mul_le_mul x1 y1)
  have mT : cdv (X2 * Y2) (2 ^ W) ≤ 2 ^ (W + 1 + 1) := prod_le (y := 1) X2' Y2'
  have em := fun sx sy (u1 : p1 ≤ sx) (u2 : sx ≤ p2') (v1 : q1 ≤ sy) (v2 : sy ≤ q2) => enc_prodN (ex sx u1 u2) (ey sy v1 v2)
  generalize X1 * Y1 / 2 ^ W = M1 at *
  generalize cdv (X2 * Y2) (2 ^ W) = M2 at *
  have lM2 := lim_len_p2 mT (by omega)
  have be := ref9_Beta a b ha (by omega) hb (by omega)
  obtain ⟨c1, c2⟩ := bet_ok ha hb ha2 hb2
  have zb := beta2_size (a := a) (b := b) (by omega) (by omega)
  have bnn : 0 ≤ beta2 a b := beta2_nn a b
  have qi := quo_is c2 bnn
  have i2 := ref2_Int 2 (by omega)
  have ia := ref2_Int (a : Int) (by omega)
  have i1 := ref2_Int 1 (by omega)
  have mu := ref2_Mul (RatA_rv zb) (RatA_rv (int_szR (n := (a : Int)) (by omega))) (by omega) (by omega) (by omega)
  have zm := szR_mul zb (int_szR (n := (a : Int)) (by omega)) (by omega)
  have di := ref2_Div (RatA_rv (int_szR (n := 2) (by omega))) (RatA_rv zm) (by omega) (by omega) (by omega)
  have zq := szR_div (int_szR (n := 2) (by omega)) zm (by omega) (by omega)
  have sb := ref2_Sub (RatA_rv (int_szR (n := 1) (by omega))) hv (by omega) hL1 (by omega)
  rw [show ((1 : Int) : Rat) = 1 from rfl] at i1 sb
  rw [show ((2 : Int) : Rat) = 2 from rfl] at i2 di zq
  have qnn : 0 ≤ 2 / (beta2 a b * ((a : Int) : Rat)) := by
    have N : (0 : Rat) < (((beta2 a b).num.natAbs * a : Nat) : Rat) := by exact_mod_cast c2
    rw [qi, Rat.div_def]
    exact Rat.mul_nonneg (nat_nonneg _) (by have := Rat.inv_pos.2 N; grind)
  have qT : upN (2 / (beta2 a b * ((a : Int) : Rat))) W ≤ 2 ^ (W + 20) := by
    refine upN_le (n := 1048576) (m := 1) qnn ?_ (by rw [Nat.pow_add]; omega) (by omega)
    have N : (0 : Rat) < (((beta2 a b).num.natAbs * a : Nat) : Rat) := by exact_mod_cast c2
    refine le_by N ?_
    rw [qi]
    have e1 := Rat.div_mul_cancel (a := (((beta2 a b).den * 2 : Nat) : Rat)) (b := (((beta2 a b).num.natAbs * a : Nat) : Rat)) (by grind)
    have e2 := nat_le_rat c1
    have e3 : ((1048576 * ((beta2 a b).num.natAbs * a) : Nat) : Rat) = ((1048576 : Nat) : Rat) * (((beta2 a b).num.natAbs * a : Nat) : Rat) := by exact_mod_cast rfl
    rw [e3, ← e1] at e2
    have one : ((1 : Nat) : Rat) = 1 := rfl
    rw [one, Rat.mul_one]
    exact e2
  have nq := ref4_NumN (w := W) (RatA_rv zq) (by omega) (by omega) (by omega) qnn
  have eq := num_enc qnn W
  have q12 := un_up (q := 2 / (beta2 a b * ((a : Int) : Rat))) W
  have lq := lim_len_p2 qT (by omega)
  have pr2 := ref4_ProdN (a := M1) (b := M2) (c := unN (2 / (beta2 a b * ((a : Int) : Rat))) W) (d := upN (2 / (beta2 a b * ((a : Int) : Rat))) W) (w := W) m12 q12 (by omega) (by omega) (by omega) (by omega)
  have et := fun sx sy (u1 : p1 ≤ sx) (u2 : sx ≤ p2') (v1 : q1 ≤ sy) (v2 : sy ≤ q2) => enc_prodN (em sx sy u1 u2 v1 v2) eq
  have n12 := div_le_cdv (d := 2 ^ W) P0 (Nat.mul_le_mul m12 q12)
  have nT : cdv (M2 * upN (2 / (beta2 a b * ((a : Int) : Rat))) W) (2 ^ W) ≤ 2 ^ (W + 1 + 1 + 20) := prod_le mT qT
  have hbe : ∃ be2, be2 = beta2 a b := ⟨_, rfl⟩
  obtain ⟨be2, hbe⟩ := hbe
  have fst : ∀ sx sy, (if a % 2 * (b % 2) = 1 then 1 / PI0 else 1) * (pwR x (a / 2) * (if a % 2 = 1 then sx else 1) * (pwR (1 - x) (b / 2) * (if b % 2 = 1 then sy else 1)) * (2 / (beta2 a b * ((a : Int) : Rat)))) = fstR a b x sx sy := by
    intro sx sy
    rw [qi]
    unfold fstR
    rw [Rat.div_def, Rat.div_def]
    grind
  generalize 2 / (beta2 a b * ((a : Int) : Rat)) = Q at *
  generalize M1 * unN Q W / 2 ^ W = N1 at *
  generalize cdv (M2 * upN Q W) (2 ^ W) = N2 at *
  generalize unN Q W = U1 at *
  generalize upN Q W = U2 at *
  have lN2 := lim_len_p2 nT (by omega)
  have nT' := nT
  have lB0 := lim_len_p2 r2 (by omega)
  rw [hbe.symm] at be mu di
  generalize be2 * ((a : Int) : Rat) = mq at *
  clear em qi c1 c2 zb bnn zm zq qnn eq r3 r4 r5 mT nT qT X2' Y2' x2 y2
  by_cases hpi : a % 2 * (b % 2) = 1
  · obtain ⟨PL, PH, fp, pe, pl, plh, PHl⟩ := ref8_Pi2 (w := W) hw1 (by omega)
    have be' : Go.Ev.Fn CX 139 [.int .i64 (a : Int), .int .i64 (b : Int)] (.tup [rv be2, .int .i64 1, .bool true]) := by
      rw [hpi] at be
      exact be
    have PL0 : 0 < PL := by omega
    have pp : 2 ^ (2 * W) = 2 ^ W * 2 ^ W := by rw [← Nat.pow_add, show 2 * W = W + W by omega]
    have ig := ref4_InvN (a := PL) (b := PH) (w := W) PL0 plh (by omega) (by omega)
    have ei := enc_invN PL0 pe
    have i12 : 2 ^ (2 * W) / PH ≤ cdv (2 ^ (2 * W)) PL := Nat.le_trans (Nat.div_le_div_left plh PL0) (div_le_cdv PL0 (Nat.le_refl _))
    have iT : cdv (2 ^ (2 * W)) PL ≤ 2 ^ W := cdv_le PL0 (by rw [pp]; exact Nat.mul_le_mul_left _ pl)
    have lI := lim_len_p2 iT (by omega)
    generalize 2 ^ (2 * W) / PH = I1 at *
    generalize cdv (2 ^ (2 * W)) PL = I2 at *
    have pr4 := ref4_ProdN (a := N1) (b := N2) (c := I1) (d := I2) (w := W) n12 i12 (by omega) (by omega) (by omega) (by omega)
    have r12 := div_le_cdv (d := 2 ^ W) P0 (Nat.mul_le_mul n12 i12)
    have rT : cdv (N2 * I2) (2 ^ W) ≤ 2 ^ (W + 1 + 1 + 20) := Nat.le_trans (cdv_le P0 (Nat.mul_le_mul_left _ iT)) nT'
    have eG := fun sx sy (u1 : p1 ≤ sx) (u2 : sx ≤ p2') (v1 : q1 ≤ sy) (v2 : sy ≤ q2) => enc_prodN (et sx sy u1 u2 v1 v2) ei
    generalize N1 * I1 / 2 ^ W = R1 at *
    generalize cdv (N2 * I2) (2 ^ W) = R2 at *
    have lR2 := lim_len_p2 rT (by omega)
    have pr3 := ref4_ProdN (a := R1) (b := R2) (c := A0) (d := B0) (w := W) r12 r1 (by omega) (by omega) (by omega) (by omega)
    have z12 := div_le_cdv (d := 2 ^ W) P0 (Nat.mul_le_mul r12 r1)
    have lz := lim_len_mul (a := R2) (b := B0)
    have lz2 := lim_len_mono (cdv_self (R2 * B0) P0)
    have eF := fun sx sy (u1 : p1 ≤ sx) (u2 : sx ≤ p2') (v1 : q1 ≤ sy) (v2 : sy ≤ q2) M (hM : K ≤ M) => enc_prodN (eG sx sy u1 u2 v1 v2) (er M hM)
    have zT : cdv (R2 * B0) (2 ^ W) ≤ 2 ^ (W + 1 + 1 + 20 + 60) := prod_le rT r2
    generalize R1 * A0 / 2 ^ W = Z1 at *
    generalize cdv (R2 * B0) (2 ^ W) = Z2 at *
    have bk := ref4_BackN (a := Z1) (b := Z2) (n := 300) (Nat.le_trans (lim_len_mono z12) (by omega)) (by omega) (by omega) (by omega)
    have zT' : Z2 ≤ 2 ^ (w + 400) := Nat.le_trans zT (Nat.pow_le_pow_right (by omega) (by omega))
    have oT : cdv Z2 (2 ^ 300) ≤ 2 ^ (w + 400) := Nat.le_trans (cdv_self Z2 (Nat.two_pow_pos 300)) zT'
    have o12 := div_le_cdv (d := 2 ^ 300) (Nat.two_pow_pos 300) z12
    refine ⟨_, _, K, p1, p2', q1, q2, ?_, o12, oT, a0, a1, a2, a3, b0, b1, b2, b3, ?_⟩
    rotate_left
    · intro sx sy u1 u2 v1 v2 M hM
      have h := eF sx sy u1 u2 v1 v2 M hM
      have f := fst sx sy
      rw [if_pos hpi, Rat.mul_comm (1 / PI0)] at f
      rw [f] at h
      exact enc_backN (w := w) (n := 300) (hW (fun W => Enc W Z1 Z2 (fstR a b x sx sy * sR x a b M)) h)
    clear eG eF er et ex ey fst oT zT zT' ei pe a0 a1 a2 a3 b0 b1 b2 b3
    generalize 1 - x = y at *
    generalize cdv Z2 (2 ^ 300) = O2 at *
    generalize Z1 / 2 ^ 300 = O1 at *
    obtain ⟨s0, n0, d0, rfl, -⟩ := hv
    refine Go.Ev.Fn.intro (fn := Tryz.f99) (body := (Tryz.f99).body.get!) (by kernel_rfl) (by kernel_rfl) (by kernel_rfl) (fun _ => rfl) (Nat.le_of_ble_eq_true (by kernel_rfl)) ?_; unfold Tryz.f99; simp only [Option.get!_some]
    repeat (first | (simp only [go_sem, Nat.reduceEqDiff, Nat.reduceAdd, Nat.reduceSub, Nat.reduceMul, Nat.reduceLeDiff, Nat.reduceLT, reduceIte, reduceCtorEq, Nat.succ_ne_zero, elemsC, Int.reduceToNat, Nat.reducePow, hwi]) | (simp (disch := (first | omega | (simp only [AL, List.length_map]; omega))) only [AR, AL, ifT, ifF, take_all, List.length_cons, List.length_nil, Int.reduceToNat, Int.reducePow, Nat.reducePow, hwi]) | (refine wk_intro (by kernel_rfl) ?_) | (refine vp_draw (id := 3) (l := []) (by kernel_rfl) ?_) | (refine vp_draw (id := 4) (l := []) (by kernel_rfl) ?_) | (refine vp_draw (id := 5) (l := []) (by kernel_rfl) ?_) | (refine vp_draw (id := 7) (l := []) (by kernel_rfl) ?_) | (refine vp_draw (id := 8) (l := []) (by kernel_rfl) ?_) | (refine vf_of (by first | exact be' | exact i2 | exact ia | exact mu | exact di | exact fx | exact i1 | exact sb | exact fy | exact pr1 | exact nq | exact pr2 | exact fp | exact ig | exact pr4 | exact fr | exact pr3 | exact bk) ?_))
  · have be' : Go.Ev.Fn CX 139 [.int .i64 (a : Int), .int .i64 (b : Int)] (.tup [rv be2, .int .i64 0, .bool true]) := by
      have : a % 2 * (b % 2) = 0 := by
        have x1 : a % 2 ≤ 1 := by omega
        have x2 : b % 2 ≤ 1 := by omega
        have := Nat.mul_le_mul x1 x2
        omega
      rw [this] at be
      exact be
    have pr3 := ref4_ProdN (a := N1) (b := N2) (c := A0) (d := B0) (w := W) n12 r1 (by omega) (by omega) (by omega) (by omega)
    have z12 := div_le_cdv (d := 2 ^ W) P0 (Nat.mul_le_mul n12 r1)
    have lz := lim_len_mul (a := N2) (b := B0)
    have lz2 := lim_len_mono (cdv_self (N2 * B0) P0)
    have eF := fun sx sy (u1 : p1 ≤ sx) (u2 : sx ≤ p2') (v1 : q1 ≤ sy) (v2 : sy ≤ q2) M (hM : K ≤ M) => enc_prodN (et sx sy u1 u2 v1 v2) (er M hM)
    have zT : cdv (N2 * B0) (2 ^ W) ≤ 2 ^ (W + 1 + 1 + 20 + 60) := prod_le nT' r2
    generalize N1 * A0 / 2 ^ W = Z1 at *
    generalize cdv (N2 * B0) (2 ^ W) = Z2 at *
    have bk := ref4_BackN (a := Z1) (b := Z2) (n := 300) (Nat.le_trans (lim_len_mono z12) (by omega)) (by omega) (by omega) (by omega)
    have zT' : Z2 ≤ 2 ^ (w + 400) := Nat.le_trans zT (Nat.pow_le_pow_right (by omega) (by omega))
    have oT : cdv Z2 (2 ^ 300) ≤ 2 ^ (w + 400) := Nat.le_trans (cdv_self Z2 (Nat.two_pow_pos 300)) zT'
    have o12 := div_le_cdv (d := 2 ^ 300) (Nat.two_pow_pos 300) z12
    refine ⟨_, _, K, p1, p2', q1, q2, ?_, o12, oT, a0, a1, a2, a3, b0, b1, b2, b3, ?_⟩
    rotate_left
    · intro sx sy u1 u2 v1 v2 M hM
      have h := eF sx sy u1 u2 v1 v2 M hM
      have f := fst sx sy
      rw [if_neg hpi, Rat.one_mul] at f
      rw [f] at h
      exact enc_backN (w := w) (n := 300) (hW (fun W => Enc W Z1 Z2 (fstR a b x sx sy * sR x a b M)) h)
    clear eF er et ex ey fst oT zT zT' a0 a1 a2 a3 b0 b1 b2 b3
    generalize 1 - x = y at *
    generalize cdv Z2 (2 ^ 300) = O2 at *
    generalize Z1 / 2 ^ 300 = O1 at *
    obtain ⟨s0, n0, d0, rfl, -⟩ := hv
    refine Go.Ev.Fn.intro (fn := Tryz.f99) (body := (Tryz.f99).body.get!) (by kernel_rfl) (by kernel_rfl) (by kernel_rfl) (fun _ => rfl) (Nat.le_of_ble_eq_true (by kernel_rfl)) ?_; unfold Tryz.f99; simp only [Option.get!_some]
    repeat (first | (simp only [go_sem, Nat.reduceEqDiff, Nat.reduceAdd, Nat.reduceSub, Nat.reduceMul, Nat.reduceLeDiff, Nat.reduceLT, reduceIte, reduceCtorEq, Nat.succ_ne_zero, elemsC, Int.reduceToNat, Nat.reducePow, hwi]) | (simp (disch := (first | omega | (simp only [AL, List.length_map]; omega))) only [AR, AL, ifT, ifF, take_all, List.length_cons, List.length_nil, Int.reduceToNat, Int.reducePow, Nat.reducePow, hwi]) | (refine wk_intro (by kernel_rfl) ?_) | (refine vp_draw (id := 3) (l := []) (by kernel_rfl) ?_) | (refine vp_draw (id := 4) (l := []) (by kernel_rfl) ?_) | (refine vp_draw (id := 5) (l := []) (by kernel_rfl) ?_) | (refine vp_draw (id := 7) (l := []) (by kernel_rfl) ?_) | (refine vp_draw (id := 8) (l := []) (by kernel_rfl) ?_) | (refine vf_of (by first | exact be' | exact i2 | exact ia | exact mu | exact di | exact fx | exact i1 | exact sb | exact fy | exact pr1 | exact nq | exact pr2 | exact fr | exact pr3 | exact bk) ?_))
end
end Go.Proofs.YtecjelnpmcnbaaaGreat
namespace Go.Proofs.YtecjelnpmcnbaaaGreat
open Go.Ev
theorem ref10_Hold {p : Nat} (hp : p ≤ 200) : Go.Ev.Fn CX 83 [.int .i64 (p : Int)] (.int .i64 (p : Int)) := by
  have e1 : (if (0 : Int) > (p : Int) then (0 : Int) else (p : Int)) = (p : Int) := if_neg (by omega)
  have e2 : (if (200 : Int) < (p : Int) then (200 : Int) else (p : Int)) = (p : Int) := if_neg (by omega)
  refine Go.Ev.Fn.intro (fn := Tryz.f83) (body := (Tryz.f83).body.get!) (by kernel_rfl) (by kernel_rfl) (by kernel_rfl) (fun _ => rfl) (Nat.le_of_ble_eq_true (by kernel_rfl)) ?_; unfold Tryz.f83; simp only [Option.get!_some]
  repeat (first | (simp only [go_sem, Nat.reduceEqDiff, Nat.reduceAdd, Nat.reduceSub, Nat.reduceMul, Nat.reduceLeDiff, Nat.reduceLT, reduceIte, reduceCtorEq, Nat.succ_ne_zero, elemsC, Int.reduceToNat, Nat.reducePow, e1, e2]) | (simp (disch := (first | omega | (simp only [AL, List.length_map]; omega))) only [AR, AL, ifT, ifF, take_all, List.length_cons, List.length_nil, Int.reduceToNat, Int.reducePow, Nat.reducePow, e1, e2]) | (refine wk_intro (by kernel_rfl) ?_))
section
variable {v : SV} {x : Rat} {L a b p : Nat}
theorem half_len : szR (mkRat 1 2) 1 := ⟨lim_len_lt (by decide +kernel), lim_len_lt (by decide +kernel)⟩
theorem ref12_I_lo {A B : Nat} (hv : RatA v x L) (hL1 : 1 ≤ L) (hL : L ≤ 8) (ha : 1 ≤ a) (ha2 : a ≤ 20) (hb : 1 ≤ b) (hb2 : b ≤ 20) (hp : p ≤ 160) (h0 : 0 < x) (h1 : x + x ≤ 1)
    (co : Go.Ev.Fn CX 99 [.int .i64 (a : Int), .int .i64 (b : Int), v, .int .i64 ((p + 40 : Nat) : Int)] (ivN A B)) (hA : (lim A).length ≤ 100) (hB : (lim B).length ≤ 100) :
    Go.Ev.Fn CX 53 [.int .i64 (a : Int), .int .i64 (b : Int), v, .int .i64 ((p : Int) + 20)] (.tup [ballR (mkRat (A : Int) (2 ^ (p + 40))) (mkRat (B : Int) (2 ^ (p + 40))), .bool true]) := by
  have zx := szR_of hv hL1
  have i1 := ref2_Int 1 (by omega)
  have i0 := ref2_Int 0 (by omega)
  have z0 : szR ((0 : Int) : Rat) 2 := int_szR (by omega)
  have z1 : szR ((1 : Int) : Rat) 2 := int_szR (by omega)
  have o := ref4_Of (RatA_rv z0) (by omega)
  have c0 := ref2_Cmp hv (RatA_rv z0) hL1 (by omega) (by omega)
  have c1 := ref2_Cmp hv (RatA_rv z1) hL1 (by omega) (by omega)
  have zr := ref2_Zero hv hL1 (by omega)
  have sm := ref2_Same hv (RatA_rv z1) hL1 (by omega) (by omega)
  have ho := ref10_Hold (p := p + 20) (by omega)
  have oh := ref2_Of false [1] [2] (by simp [okL]) (by simp [okL]) (by simp) (by simp)
  rw [show wth [1] = 1 from rfl, show wth [2] = 2 from rfl] at oh
  have oh' : Go.Ev.Fn CX 14 [.bool false, .sl 1 [.int .u32 1], .sl 1 [.int .u32 2]] (rv (mkRat 1 2)) := oh
  have ch := ref2_Cmp hv (RatA_rv half_len) hL1 (by omega) (by omega)
  have bl := ref4_Ball (a := (A : Int)) (b := (B : Int)) (by rw [Int.natAbs_natCast]; omega) (by rw [Int.natAbs_natCast]; omega) (p + 40) (by omega)
  rw [ivN_eq] at bl
  rw [show ((0 : Int) : Rat) = 0 from rfl] at i0 o c0
  rw [show ((1 : Int) : Rat) = 1 from rfl] at i1 c1 sm
  rw [decide_eq_false (by grind)] at zr
  rw [decide_eq_false (show ¬ x = 1 by grind)] at sm
  have e0 : decide (cmpR x 0 < 0) = false := by rw [cmpR_lt]; exact decide_eq_false (by grind)
  have e1 : decide (cmpR x 1 > 0) = false := by rw [cmpR_gt]; exact decide_eq_false (by grind)
  have eh : decide (cmpR x (mkRat 1 2) ≤ 0) = true := by
    rw [cmpR_le]
    have : mkRat 1 2 * 2 = 1 := by decide +kernel
    exact decide_eq_true (by grind)
  have e3 : (p : Int) + 20 + 20 = (p : Int) + 40 := by omega
  rw [show ((p + 20 : Nat) : Int) = (p : Int) + 20 from rfl] at ho
  rw [show ((p + 40 : Nat) : Int) = (p : Int) + 40 from rfl] at co bl
  clear h0 h1 oh
  generalize mkRat 1 2 = hf at *
  generalize cmpR x 0 = y0 at *
  generalize cmpR x 1 = y1 at *
  generalize cmpR x hf = y2 at *
  generalize mkRat (A : Int) (2 ^ (p + 40)) = u1 at *
  generalize mkRat (B : Int) (2 ^ (p + 40)) = u2 at *
  obtain ⟨s, n, d, rfl, -⟩ := hv
  refine Go.Ev.Fn.intro (fn := Tryz.f53) (body := (Tryz.f53).body.get!) (by kernel_rfl) (by kernel_rfl) (by kernel_rfl) (fun _ => rfl) (Nat.le_of_ble_eq_true (by kernel_rfl)) ?_; unfold Tryz.f53; simp only [Option.get!_some]
  repeat (first | (simp only [go_sem, Nat.reduceEqDiff, Nat.reduceAdd, Nat.reduceSub, Nat.reduceMul, Nat.reduceLeDiff, Nat.reduceLT, reduceIte, reduceCtorEq, Nat.succ_ne_zero, elemsC, Int.reduceToNat, Nat.reducePow, e0, e1, eh, e3]) | (simp (disch := (first | omega | (simp only [AL, List.length_map]; omega))) only [AR, AL, ifT, ifF, take_all, List.length_cons, List.length_nil, Int.reduceToNat, Int.reducePow, Nat.reducePow, e0, e1, eh, e3]) | (refine wk_intro (by kernel_rfl) ?_) | (refine vp_draw (id := 3) (l := []) (by kernel_rfl) ?_) | (refine vp_draw (id := 10) (l := [59, 60]) (by kernel_rfl) ?_) | (refine vp_draw (id := 13) (l := []) (by kernel_rfl) ?_) | (refine vf_of (by first | exact i1 | exact i0 | exact o | exact c0 | exact c1 | exact zr | exact sm | exact ho | exact oh' | exact ch | exact co | exact bl) ?_))
theorem ref12_I_hi {A B : Nat} (hv : RatA v x L) (hL1 : 1 ≤ L) (hL : L ≤ 8) (ha : 1 ≤ a) (ha2 : a ≤ 20) (hb : 1 ≤ b) (hb2 : b ≤ 20) (hp : p ≤ 160) (h0 : 1 < x + x) (h1 : x < 1)
    (co : Go.Ev.Fn CX 99 [.int .i64 (b : Int), .int .i64 (a : Int), rv (1 - x), .int .i64 ((p + 40 : Nat) : Int)] (ivN A B)) (hA : (lim A).length ≤ 100) (hB : (lim B).length ≤ 100) :
    Go.Ev.Fn CX 53 [.int .i64 (a : Int), .int .i64 (b : Int), v, .int .i64 ((p : Int) + 20)] (.tup [ballR (mkRat (((2 ^ (p + 40) : Nat) : Int) - (B : Int)) (2 ^ (p + 40))) (mkRat (((2 ^ (p + 40) : Nat) : Int) - (A : Int)) (2 ^ (p + 40))), .bool true]) := by
  have zx := szR_of hv hL1
  have i1 := ref2_Int 1 (by omega)
  have i0 := ref2_Int 0 (by omega)
  have z0 : szR ((0 : Int) : Rat) 2 := int_szR (by omega)
  have z1 : szR ((1 : Int) : Rat) 2 := int_szR (by omega)
  have o := ref4_Of (RatA_rv z0) (by omega)
  have c0 := ref2_Cmp hv (RatA_rv z0) hL1 (by omega) (by omega)
  have c1 := ref2_Cmp hv (RatA_rv z1) hL1 (by omega) (by omega)
  have zr := ref2_Zero hv hL1 (by omega)
  have sm := ref2_Same hv (RatA_rv z1) hL1 (by omega) (by omega)
  have ho := ref10_Hold (p := p + 20) (by omega)
  have oh := ref2_Of false [1] [2] (by simp [okL]) (by simp [okL]) (by simp) (by simp)
  rw [show wth [1] = 1 from rfl, show wth [2] = 2 from rfl] at oh
  have oh' : Go.Ev.Fn CX 14 [.bool false, .sl 1 [.int .u32 1], .sl 1 [.int .u32 2]] (rv (mkRat 1 2)) := oh
  have ch := ref2_Cmp hv (RatA_rv half_len) hL1 (by omega) (by omega)
  have lP := lim_len_p2 (n := 2 ^ (p + 40)) (Nat.le_refl _) (by omega)
  have n1 := ref4_NumN (w := p + 40) (RatA_rv (one_szR')) (by omega) (by omega) (by omega) (show (0 : Rat) ≤ 1 by decide)
  have u1 : unN 1 (p + 40) = 2 ^ (p + 40) := by show 1 * 2 ^ (p + 40) / 1 = _; rw [Nat.one_mul, Nat.div_one]
  have u2 : upN 1 (p + 40) = 2 ^ (p + 40) := by show cdv (1 * 2 ^ (p + 40)) 1 = _; unfold cdv; rw [Nat.one_mul, Nat.div_one]; omega
  rw [u1, u2] at n1
  have mi := ref4_MinusN (x := ((2 ^ (p + 40) : Nat) : Int)) (y := ((2 ^ (p + 40) : Nat) : Int)) (c := A) (d := B) (by rw [Int.natAbs_natCast]; omega) (by rw [Int.natAbs_natCast]; omega) (by omega) (by omega)
  rw [ivN_eq] at mi
  have sb := ref2_Sub (RatA_rv z1) hv (by omega) hL1 (by omega)
  have la := lim_len_add (a := 2 ^ (p + 40)) (b := A) (L := 200) (by omega) (by omega)
  have lb := lim_len_add (a := 2 ^ (p + 40)) (b := B) (L := 200) (by omega) (by omega)
  have bl := ref4_Ball (a := ((2 ^ (p + 40) : Nat) : Int) - (B : Int)) (b := ((2 ^ (p + 40) : Nat) : Int) - (A : Int)) (Nat.le_trans (lim_len_mono (show _ ≤ 2 ^ (p + 40) + B by omega)) (by omega)) (Nat.le_trans (lim_len_mono (show _ ≤ 2 ^ (p + 40) + A by omega)) (by omega)) (p + 40) (by omega)
  rw [show ((0 : Int) : Rat) = 0 from rfl] at i0 o c0
  rw [show ((1 : Int) : Rat) = 1 from rfl] at i1 c1 sm sb
  rw [decide_eq_false (by grind)] at zr
  rw [decide_eq_false (show ¬ x = 1 by grind)] at sm
  have e0 : decide (cmpR x 0 < 0) = false := by rw [cmpR_lt]; exact decide_eq_false (by grind)
  have e1 : decide (cmpR x 1 > 0) = false := by rw [cmpR_gt]; exact decide_eq_false (by grind)
  have eh : decide (cmpR x (mkRat 1 2) ≤ 0) = false := by
    rw [cmpR_le]
    have : mkRat 1 2 * 2 = 1 := by decide +kernel
    exact decide_eq_false (by grind)
  have e3 : (p : Int) + 20 + 20 = (p : Int) + 40 := by omega
  rw [show ((p + 20 : Nat) : Int) = (p : Int) + 20 from rfl] at ho
  rw [show ((p + 40 : Nat) : Int) = (p : Int) + 40 from rfl] at co bl n1
  clear h0 h1 oh u1 u2 la lb lP
  generalize mkRat 1 2 = hf at *
  generalize cmpR x 0 = y0 at *
  generalize cmpR x 1 = y1 at *
  generalize cmpR x hf = y2 at *
  generalize ((2 ^ (p + 40) : Nat) : Int) - (A : Int) = U1 at *
  generalize ((2 ^ (p + 40) : Nat) : Int) - (B : Int) = U2 at *
  generalize mkRat U1 (2 ^ (p + 40)) = w1 at *
  generalize mkRat U2 (2 ^ (p + 40)) = w2 at *
  generalize 2 ^ (p + 40) = PP at *
  generalize 1 - x = xx at *
  obtain ⟨s, n, d, rfl, -⟩ := hv
  refine Go.Ev.Fn.intro (fn := Tryz.f53) (body := (Tryz.f53).body.get!) (by kernel_rfl) (by kernel_rfl) (by kernel_rfl) (fun _ => rfl) (Nat.le_of_ble_eq_true (by kernel_rfl)) ?_; unfold Tryz.f53; simp only [Option.get!_some]
  repeat (first | (simp only [go_sem, Nat.reduceEqDiff, Nat.reduceAdd, Nat.reduceSub, Nat.reduceMul, Nat.reduceLeDiff, Nat.reduceLT, reduceIte, reduceCtorEq, Nat.succ_ne_zero, elemsC, Int.reduceToNat, Nat.reducePow, e0, e1, eh, e3]) | (simp (disch := (first | omega | (simp only [AL, List.length_map]; omega))) only [AR, AL, ifT, ifF, take_all, List.length_cons, List.length_nil, Int.reduceToNat, Int.reducePow, Nat.reducePow, e0, e1, eh, e3]) | (refine wk_intro (by kernel_rfl) ?_) | (refine vp_draw (id := 3) (l := []) (by kernel_rfl) ?_) | (refine vp_draw (id := 10) (l := [59, 60]) (by kernel_rfl) ?_) | (refine vp_draw (id := 13) (l := []) (by kernel_rfl) ?_) | (refine vf_of (by first | exact i1 | exact i0 | exact o | exact c0 | exact c1 | exact zr | exact sm | exact ho | exact oh' | exact ch | exact n1 | exact sb | exact co | exact mi | exact bl) ?_))
end
end Go.Proofs.YtecjelnpmcnbaaaGreat
namespace Go.Proofs.YtecjelnpmcnbaaaGreat
open Go.Ev
section
variable {a b w p L : Nat} {x : Rat} {v : SV}
theorem core_sq (hv : RatA v x L) (hL1 : 1 ≤ L) (hL : L ≤ 8) (ha : 1 ≤ a) (ha2 : a ≤ 20) (hb : 1 ≤ b) (hb2 : b ≤ 20) (h0 : 0 ≤ x) (h1 : x + x ≤ 1) (hw0 : 40 ≤ w) (hw : w ≤ 200) :
    ∃ A B : Nat, Go.Ev.Fn CX 99 [.int .i64 (a : Int), .int .i64 (b : Int), v, .int .i64 (w : Int)] (ivN A B) ∧ A ≤ B ∧ B ≤ 2 ^ (w + 400) ∧ RowS a b w x A B := by
  obtain ⟨A, B, K, p1, p2', q1, q2, f, g1, g2, r1, r3, r2, r4, r5, r7, r6, r8, en⟩ := ref12_core (w := w) hv hL1 hL ha ha2 hb hb2 h0 h1 hw0 hw
  refine ⟨A, B, f, g1, g2, K, fun m hm => ?_⟩
  have hx1 : x ≤ 1 := by clear g2; grind
  have s1 := sq_mon r1 r2 (Rat.le_trans r3 r4)
  have s2 := sq_mon r5 r6 (Rat.le_trans r7 r8)
  have e1 := en p1 q1 Rat.le_refl s1 Rat.le_refl s2 m hm
  have e2 := en p2' q2 s1 Rat.le_refl s2 Rat.le_refl m hm
  have lo := sh_lo (a := a) (b := b) (k := m) h0 hx1 r3 r7
  have hi := sh_hi (a := a) (b := b) (k := m) h0 hx1 r4 r8
  have P := p2_pos w
  have PP := mul_self_nn (p2 w)
  have A1 : (A : Rat) ≤ fstR a b x p1 q1 * sR x a b m * p2 w := e1.1
  have B1 : fstR a b x p2' q2 * sR x a b m * p2 w ≤ (B : Rat) := e2.2
  have n1 : 0 ≤ fstR a b x p1 q1 * sR x a b m * p2 w := Rat.le_trans (nat_nonneg A) A1
  have n2 : 0 ≤ fstR a b x p2' q2 * sR x a b m * p2 w := Rat.le_trans (nat_nonneg A) e2.1
  have A2 := mul_both A1 A1 n1 (nat_nonneg A)
  have B2 := mul_both B1 B1 (nat_nonneg B) n2
  have lo2 := Rat.mul_le_mul_of_nonneg_right lo PP
  have hi2 := Rat.mul_le_mul_of_nonneg_right hi PP
  rw [sq_pair] at A2 B2
  exact ⟨Rat.le_trans A2 lo2, Rat.le_trans hi2 B2⟩
theorem rowS_Lo1 {A B : Nat} (rs : RowS a b w x A B) : Lo1 a b x (mkRat (A : Int) (2 ^ w)) := by
  obtain ⟨K, hK⟩ := rs
  refine .inr ⟨K, fun m hm => ?_⟩
  have g := (hK m hm).1
  have P := p2_pos w
  have t := mk_p2n A w
  refine le_by (Rat.mul_pos P P) ?_
  rw [← t] at g
  generalize mkRat (A : Int) (2 ^ w) = u at *
  generalize p2 w = q at *
  have e : u * u * (q * q) = u * q * (u * q) := by grind
  rw [e]; exact g
theorem rowS_Hi1 {A B : Nat} (rs : RowS a b w x A B) : Hi1 a b x (mkRat (B : Int) (2 ^ w)) := by
  obtain ⟨K, hK⟩ := rs
  have P := p2_pos w
  have t := mk_p2n B w
  refine ⟨le_by P (by rw [t, Rat.zero_mul]; exact nat_nonneg _), K, fun m hm => ?_⟩
  have g := (hK m hm).2
  refine le_by (Rat.mul_pos P P) ?_
  rw [← t] at g
  generalize mkRat (B : Int) (2 ^ w) = u at *
  generalize p2 w = q at *
  have e : u * u * (q * q) = u * q * (u * q) := by grind
  rw [e]; exact g
theorem one_less (B w : Nat) : 1 - mkRat (((2 ^ w : Nat) : Int) - (B : Int)) (2 ^ w) = mkRat (B : Int) (2 ^ w) := by
  have P := p2_pos w
  have m1 := mk_mulP (((2 ^ w : Nat) : Int) - (B : Int)) (b := 2 ^ w) (Nat.pow_pos (by omega))
  have m2 := mk_p2n B w
  have c : ((((2 ^ w : Nat) : Int) - (B : Int) : Int) : Rat) = p2 w - (B : Rat) := by
    rw [Rat.intCast_sub]; rfl
  have m1' : mkRat (((2 ^ w : Nat) : Int) - (B : Int)) (2 ^ w) * p2 w = p2 w - (B : Rat) := by rw [← c]; exact m1
  generalize mkRat (((2 ^ w : Nat) : Int) - (B : Int)) (2 ^ w) = u at *
  generalize mkRat (B : Int) (2 ^ w) = z at *
  have k : (1 - u) * p2 w = z * p2 w := by grind
  exact Rat.le_antisymm (le_by P (by rw [k]; exact Rat.le_refl)) (le_by P (by rw [k]; exact Rat.le_refl))
theorem szR_zi {z : Int} {w e : Nat} (h : z.natAbs ≤ 2 ^ e) (he : e ≤ 1000) (hw : w ≤ 1000) : szR (mkRat z (2 ^ w)) 40 := by
  have e1 := szR_mk (s := decide (z < 0)) (n := z.natAbs) (d := 2 ^ w) (lim_len_p2 h he) (lim_len_p2 (Nat.le_refl _) hw) (by omega)
  rwa [sgn_self] at e1
theorem szR_less {B p : Nat} (h : B ≤ 2 ^ (p + 40 + 400)) (hp : p ≤ 200 := by omega) : szR (mkRat (((2 ^ (p + 40) : Nat) : Int) - (B : Int)) (2 ^ (p + 40))) 40 := by
  have m : 2 ^ (p + 40) ≤ 2 ^ (p + 40 + 400) := Nat.pow_le_pow_right (by omega) (by omega)
  generalize hE : 2 ^ (p + 40) = E at *
  have hz : ((E : Int) - (B : Int)).natAbs ≤ 2 ^ (p + 40 + 400) := by omega
  rw [← hE] at hz ⊢
  exact szR_zi hz (by omega) (by omega)
theorem ref12_ballW (hv : RatA v x L) (hL1 : 1 ≤ L) (hL : L ≤ 5) (ha : 1 ≤ a) (ha2 : a ≤ 20) (hb : 1 ≤ b) (hb2 : b ≤ 20) (hp : p ≤ 160) (h0 : 0 < x) (h1 : x < 1) :
    ∃ l h : Rat, Go.Ev.Fn CX 53 [.int .i64 (a : Int), .int .i64 (b : Int), v, .int .i64 ((p : Int) + 20)] (.tup [ballR l h, .bool true]) ∧ szR l 40 ∧ szR h 40 ∧ LoS a b x l ∧ HiS a b x h := by
  have zx := szR_of hv hL1
  have one1 : szR 1 1 := ⟨lim_len_lt (by decide +kernel), lim_len_lt (by decide +kernel)⟩
  by_cases hh : x + x ≤ 1
  · obtain ⟨A, B, f, g1, g2, rs⟩ := core_sq (w := p + 40) hv hL1 (by omega) ha ha2 hb hb2 (Rat.le_of_lt h0) hh (by omega) (by omega)
    have lB := lim_len_p2 g2 (by omega)
    have lA := lim_len_mono g1
    exact ⟨_, _, ref12_I_lo hv hL1 (by omega) ha ha2 hb hb2 (by omega) h0 hh f (by omega) (by omega), szR_zi (z := (A : Int)) (Nat.le_trans g1 g2) (by omega) (by omega), szR_zi (z := (B : Int)) g2 (by omega) (by omega), .inl ⟨hh, rowS_Lo1 rs⟩, .inl ⟨hh, rowS_Hi1 rs⟩⟩
  · have zy := szR_sub one1 zx (by omega)
    have hh' : 1 < x + x := by grind
    obtain ⟨A, B, f, g1, g2, rs⟩ := core_sq (x := 1 - x) (w := p + 40) (RatA_rv zy) (by omega) (by omega) hb hb2 ha ha2 (by grind) (by grind) (by omega) (by omega)
    have lB := lim_len_p2 g2 (by omega)
    have lA := lim_len_mono g1
    have gA := Nat.le_trans g1 g2
    exact ⟨_, _, ref12_I_hi hv hL1 (by omega) ha ha2 hb hb2 (by omega) hh' h1 f (by omega) (by omega), szR_less g2, szR_less gA, .inr ⟨hh', by rw [one_less]; exact rowS_Hi1 rs⟩, .inr ⟨hh', by rw [one_less]; exact rowS_Lo1 rs⟩⟩
end
end Go.Proofs.YtecjelnpmcnbaaaGreat
namespace Go.Proofs.YtecjelnpmcnbaaaGreat
open Go.Ev
theorem one_limb {q : Rat} (zq : szR q 1) (h0 : 0 < q) (h1 : q < 1) : 1 ≤ q * 4294967296 ∧ 1 ≤ (1 - q) * 4294967296 := by
  have d1 : q.den < 4294967296 := by
    have h := wth_lt (okL_lim q.den)
    rw [wth_lim] at h
    have h2 : 4294967296 ^ (lim q.den).length ≤ 4294967296 ^ 1 := Nat.pow_le_pow_right (by omega) zq.2
    omega
  have dR : (q.den : Rat) ≤ 4294967296 := by exact_mod_cast Nat.le_of_lt d1
  have dp : (0 : Rat) < (q.den : Rat) := by exact_mod_cast q.den_pos
  have m := mk_mulP q.num (b := q.den) q.den_pos
  rw [Rat.mkRat_self] at m
  have n1 : (1 : Rat) ≤ (q.num : Rat) := by
    have h : (0 : Rat) < (q.num : Rat) := by rw [← m]; exact Rat.mul_pos h0 dp
    have h2 : 0 < q.num := by exact_mod_cast h
    have h3 : 1 ≤ q.num := by omega
    exact_mod_cast h3
  have n2 : (1 : Rat) ≤ (q.den : Rat) - (q.num : Rat) := by
    have h : (q.num : Rat) < (q.den : Rat) := by
      rw [← m]
      have := Rat.mul_lt_mul_of_pos_right h1 dp
      grind
    have h2 : q.num < (q.den : Int) := by exact_mod_cast h
    have h3 : q.num + 1 ≤ (q.den : Int) := by omega
    have h4 : (q.num : Rat) + 1 ≤ (q.den : Rat) := by exact_mod_cast h3
    grind
  have e1 := Rat.mul_le_mul_of_nonneg_left dR (Rat.le_of_lt h0)
  have e2 := Rat.mul_le_mul_of_nonneg_left dR (show 0 ≤ 1 - q by grind)
  constructor
  · generalize (q.den : Rat) = d at *
    generalize (q.num : Rat) = k at *
    grind
  · generalize (q.den : Rat) = d at *
    generalize (q.num : Rat) = k at *
    grind
abbrev noBall : SV := .agg [.bool false, .sl 0 [], .sl 0 [], .bool false, .sl 0 [], .sl 0 []]
theorem of_out {n p : Nat} {q : Rat} {v : SV} (hn : 1 ≤ n ∧ n ≤ 12) (hq : RatA v q 1) (ho : q ≤ 0 ∨ 1 ≤ q) : Go.Ev.Fn CX 8 [dB n, v, .int .i64 (p : Int)] (.tup [noBall, .int .i64 4]) := by
  have ck := dB_Check (n := (n : Int)) (by omega)
  have ct := dB_Counts (n : Int)
  have i0 := rat_Int 0 (by omega)
  have i1 := rat_Int 1 (by omega)
  have c0 := rat_Cmp hq (RatA_rv (int_szR (n := 0) (by omega))) (by omega) (by omega) (by omega)
  have c1 := rat_Cmp hq (RatA_rv (int_szR (n := 1) (by omega))) (by omega) (by omega) (by omega)
  have e0 := cmpR_le (q := q) (r := ((0 : Int) : Rat))
  have e1 := cmpR_ge (q := q) (r := ((1 : Int) : Rat))
  have k0 : ((0 : Int) : Rat) = 0 := rfl
  have k1 : ((1 : Int) : Rat) = 1 := rfl
  rw [k0] at i0 c0 e0
  rw [k1] at i1 c1 e1
  obtain ⟨sq, nq, dq, rfl, -⟩ := hq
  by_cases h0 : q ≤ 0
  · rw [decide_eq_true h0] at e0
    clear ho h0 k0 k1
    refine Go.Ev.Fn.intro (fn := Tryz.f8) (body := (Tryz.f8).body.get!) (by kernel_rfl) (by kernel_rfl) (by kernel_rfl) (fun _ => rfl) (Nat.le_of_ble_eq_true (by kernel_rfl)) ?_; unfold Tryz.f8; simp only [Option.get!_some]
    repeat (first | (simp only [go_sem, Nat.reduceEqDiff, Nat.reduceAdd, Nat.reduceSub, Nat.reduceMul, Nat.reduceLeDiff, Nat.reduceLT, reduceIte, reduceCtorEq, Nat.succ_ne_zero, elemsC, Int.reduceToNat, Nat.reducePow, e0]) | (simp (disch := (first | omega | (simp only [AL, List.length_map]; omega))) only [AR, AL, ifT, ifF, take_all, List.length_cons, List.length_nil, Int.reduceToNat, Int.reducePow, Nat.reducePow, e0]) | (refine wk_intro (by kernel_rfl) ?_) | (refine vp_draw (id := 6) (l := []) (by kernel_rfl) ?_) | (refine vp_draw (id := 11) (l := []) (by kernel_rfl) ?_) | (refine vp_draw (id := 14) (l := []) (by kernel_rfl) ?_) | (refine vf_of (by first | exact ck | exact ct | exact i0 | exact c0) ?_))
  · rw [decide_eq_false h0] at e0
    rw [decide_eq_true (ho.resolve_left h0)] at e1
    clear ho h0 k0 k1
    refine Go.Ev.Fn.intro (fn := Tryz.f8) (body := (Tryz.f8).body.get!) (by kernel_rfl) (by kernel_rfl) (by kernel_rfl) (fun _ => rfl) (Nat.le_of_ble_eq_true (by kernel_rfl)) ?_; unfold Tryz.f8; simp only [Option.get!_some]
    repeat (first | (simp only [go_sem, Nat.reduceEqDiff, Nat.reduceAdd, Nat.reduceSub, Nat.reduceMul, Nat.reduceLeDiff, Nat.reduceLT, reduceIte, reduceCtorEq, Nat.succ_ne_zero, elemsC, Int.reduceToNat, Nat.reducePow, e0, e1]) | (simp (disch := (first | omega | (simp only [AL, List.length_map]; omega))) only [AR, AL, ifT, ifF, take_all, List.length_cons, List.length_nil, Int.reduceToNat, Int.reducePow, Nat.reducePow, e0, e1]) | (refine wk_intro (by kernel_rfl) ?_) | (refine vp_draw (id := 6) (l := []) (by kernel_rfl) ?_) | (refine vp_draw (id := 11) (l := []) (by kernel_rfl) ?_) | (refine vp_draw (id := 14) (l := []) (by kernel_rfl) ?_) | (refine vf_of (by first | exact ck | exact ct | exact i0 | exact c0 | exact i1 | exact c1) ?_))
set_option maxHeartbeats 4000000 in
theorem of_in {n p : Nat} {q : Rat} {v : SV} (hn : 1 ≤ n ∧ n ≤ 12) (hp : p ≤ 16) (hq : RatA v q 1) (h0 : 0 < q) (h1 : q < 1) :
    ∃ k lo hi, Srch n 3 q k lo hi ∧ k ≤ 39 ∧ Go.Ev.Fn CX 8 [dB n, v, .int .i64 (p : Int)] (.tup [ballR lo hi, .int .i64 0]) := by
  have zq := szR_of hq (by omega)
  obtain ⟨q0, q1⟩ := one_limb zq h0 h1
  obtain ⟨to, t, htoE, htt, ht, t0, hto, h65, z1, z2⟩ := to_facts hp
  obtain ⟨_, _, ⟨k, lo, hi, S, hk, hw, rfl, rfl⟩, nr⟩ := narrows_fn hn hp zq q0 q1 htt ht t0 hto h65 z1 z2
  refine ⟨k, lo, hi, S, hk, ?_⟩
  obtain ⟨_, _, ⟨rfl, rfl⟩, sl⟩ := side_end (n := n) (lo := 0) (hi := 1) (x := 0) (t := -1) hn zq (.inl ⟨rfl, h0, rfl⟩)
  obtain ⟨_, _, ⟨rfl, rfl⟩, sh⟩ := side_end (n := n) (lo := 0) (hi := 1) (x := 1) (t := 1) hn zq (.inr ⟨rfl, h1, rfl⟩)
  have ck := dB_Check (n := (n : Int)) (by omega)
  have ct := dB_Counts (n : Int)
  have i0 := rat_Int 0 (by omega)
  have i1 := rat_Int 1 (by omega)
  have c0 := rat_Cmp hq (RatA_rv (int_szR (n := 0) (by omega))) (by omega) (by omega) (by omega)
  have c1 := rat_Cmp hq (RatA_rv (int_szR (n := 1) (by omega))) (by omega) (by omega) (by omega)
  have e0 := cmpR_le (q := q) (r := ((0 : Int) : Rat))
  have e1 := cmpR_ge (q := q) (r := ((1 : Int) : Rat))
  have k0 : ((0 : Int) : Rat) = 0 := rfl
  have k1 : ((1 : Int) : Rat) = 1 := rfl
  rw [k0] at i0 c0 e0
  rw [k1] at i1 c1 e1
  rw [decide_eq_false (show ¬ q ≤ 0 by grind)] at e0
  rw [decide_eq_false (show ¬ 1 ≤ q by grind)] at e1
  have iw := q_isWide (n : Int)
  have st := q_stretch (n : Int)
  have bo := ball_Of hq (by omega)
  have bt := q_bit p (by omega)
  rw [← htoE] at bt
  have x1 : (if (0 : Int) > (p : Int) then (0 : Int) else (p : Int)) = (p : Int) := if_neg (by omega)
  have x2 : (if (40 : Int) < (p : Int) then (40 : Int) else (p : Int)) = (p : Int) := if_neg (by omega)
  clear k0 k1 S hk hw ht htt t0 hto h65 z1 z2 htoE h0 h1 q0 q1
  obtain ⟨sq, nq, dq, rfl, -⟩ := hq
  refine Go.Ev.Fn.intro (fn := Tryz.f8) (body := (Tryz.f8).body.get!) (by kernel_rfl) (by kernel_rfl) (by kernel_rfl) (fun _ => rfl) (Nat.le_of_ble_eq_true (by kernel_rfl)) ?_; unfold Tryz.f8; simp only [Option.get!_some]
  repeat (first | (simp only [go_sem, Nat.reduceEqDiff, Nat.reduceAdd, Nat.reduceSub, Nat.reduceMul, Nat.reduceLeDiff, Nat.reduceLT, reduceIte, reduceCtorEq, Nat.succ_ne_zero, elemsC, Int.reduceToNat, Nat.reducePow, e0, e1]) | (simp (disch := (first | omega | (simp only [AL, List.length_map]; omega))) only [AR, AL, ifT, ifF, take_all, List.length_cons, List.length_nil, Int.reduceToNat, Int.reducePow, Nat.reducePow, e0, e1]) | (refine wk_intro (by kernel_rfl) ?_) | (refine vp_draw (id := 6) (l := []) (by kernel_rfl) ?_) | (refine vp_draw (id := 11) (l := []) (by kernel_rfl) ?_) | (refine vp_draw (id := 14) (l := []) (by kernel_rfl) ?_) | (refine vf_of (by first | exact ck | exact ct | exact i0 | exact c0 | exact i1 | exact c1 | exact iw | exact st | exact bo) ?_))
  refine vi_of sl rfl ?_
  repeat (first | (simp only [go_sem, Nat.reduceEqDiff, Nat.reduceAdd, Nat.reduceSub, Nat.reduceMul, Nat.reduceLeDiff, Nat.reduceLT, reduceIte, reduceCtorEq, Nat.succ_ne_zero, elemsC, Int.reduceToNat, Nat.reducePow]) | (simp (disch := (first | omega | (simp only [AL, List.length_map]; omega))) only [AR, AL, ifT, ifF, take_all, List.length_cons, List.length_nil, Int.reduceToNat, Int.reducePow, Nat.reducePow]) | (refine wk_intro (by kernel_rfl) ?_) | (refine vp_draw (id := 6) (l := []) (by kernel_rfl) ?_) | (refine vp_draw (id := 11) (l := []) (by kernel_rfl) ?_) | (refine vp_draw (id := 14) (l := []) (by kernel_rfl) ?_))
  refine vi_of sh rfl ?_
  repeat (first | (simp only [go_sem, Nat.reduceEqDiff, Nat.reduceAdd, Nat.reduceSub, Nat.reduceMul, Nat.reduceLeDiff, Nat.reduceLT, reduceIte, reduceCtorEq, Nat.succ_ne_zero, elemsC, Int.reduceToNat, Nat.reducePow, x1, x2]) | (simp (disch := (first | omega | (simp only [AL, List.length_map]; omega))) only [AR, AL, ifT, ifF, take_all, List.length_cons, List.length_nil, Int.reduceToNat, Int.reducePow, Nat.reducePow, x1, x2]) | (refine wk_intro (by kernel_rfl) ?_) | (refine vp_draw (id := 6) (l := []) (by kernel_rfl) ?_) | (refine vp_draw (id := 11) (l := []) (by kernel_rfl) ?_) | (refine vp_draw (id := 14) (l := []) (by kernel_rfl) ?_) | (refine vf_of (by first | exact bt) ?_))
  refine vi_of nr rfl ?_
  repeat (first | (simp only [go_sem, Nat.reduceEqDiff, Nat.reduceAdd, Nat.reduceSub, Nat.reduceMul, Nat.reduceLeDiff, Nat.reduceLT, reduceIte, reduceCtorEq, Nat.succ_ne_zero, elemsC, Int.reduceToNat, Nat.reducePow, Bool.not_true]) | (simp (disch := (first | omega | (simp only [AL, List.length_map]; omega))) only [AR, AL, ifT, ifF, take_all, List.length_cons, List.length_nil, Int.reduceToNat, Int.reducePow, Nat.reducePow, Bool.not_true]) | (refine wk_intro (by kernel_rfl) ?_) | (refine vp_draw (id := 6) (l := []) (by kernel_rfl) ?_) | (refine vp_draw (id := 11) (l := []) (by kernel_rfl) ?_) | (refine vp_draw (id := 14) (l := []) (by kernel_rfl) ?_))
end Go.Proofs.YtecjelnpmcnbaaaGreat
namespace Go.Proofs.YtecjelnpmcnbaaaGreat
open Go.Ev
end Go.Proofs.YtecjelnpmcnbaaaGreat
namespace Go.Proofs.YtecjelnpmcnbaaaGreat
open Go.Ev
end Go.Proofs.YtecjelnpmcnbaaaGreat
namespace Go.Proofs.YtecjelnpmcnbaaaGreat
open Go.Ev
end Go.Proofs.YtecjelnpmcnbaaaGreat
namespace Go.Proofs.YtecjelnpmcnbaaaGreat
open Go.Ev
end Go.Proofs.YtecjelnpmcnbaaaGreat
namespace Go.Proofs.YtecjelnpmcnbaaaGreat
open Go.Ev
section
variable {k n m : Int} {sa sb sq : Bool} {na da nb db nq dq : List Nat} {a b q : Rat} {L : Nat}
end
end Go.Proofs.YtecjelnpmcnbaaaGreat
namespace Go.Proofs.YtecjelnpmcnbaaaGreat
open Go.Ev
end Go.Proofs.YtecjelnpmcnbaaaGreat
namespace Go.Proofs.YtecjelnpmcnbaaaGreat
open Go.Ev
section
variable {k n m : Int} {sa sb sq : Bool} {na da nb db nq dq : List Nat} {a b q : Rat} {L : Nat}
end
theorem known15_fn : Go.Ev.Fn CX 10 [] (.bool true) := says_fn (n := 80) (by kernel_rfl)
section
variable {k n m : Int} {sa sb : Bool} {na da nb db : List Nat}
end
section
variable {N K : Nat} {sa sq : Bool} {na da nq dq : List Nat} {a q : Rat}
end
end Go.Proofs.YtecjelnpmcnbaaaGreat
