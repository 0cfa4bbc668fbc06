/- Part 8 of the proof: the evaluator, contracts of functions and their plain laws (joined by program). No condition. -/
import Derived.Test.YtigiblhmhmgagaaGreatPart7
import Derived.KernelRfl
/- vernierref4: Less, More, Num, Sum, Minus, Often, By, Wide, Most, Back, Rat, Ball, in the evaluator. -/
namespace Go.Proofs.YtigiblhmhmgagaaGreat
set_option linter.unusedSimpArgs false
set_option linter.unusedVariables false
set_option maxRecDepth 8000
open Go.Ev
theorem bne_dec (z : Int) : (z != 0) = decide (z ≠ 0) := by by_cases h : z = 0 <;> simp [h]
theorem cmpN_ne {a b : Nat} : (cmpN a b != 0) = decide (a ≠ b) := by
  rw [bne_dec]
  exact decide_eq_decide.2 (by unfold cmpN; split <;> (try split) <;> omega)
theorem ref4_Less (a : Int) (n : Nat) (ha : (lim a.natAbs).length ≤ 100000) (hn : n ≤ 4096) (h0 : 0 < n) : Go.Ev.Fn CX 107 [intV a, .int .i64 (n : Int)] (intV (a / ((2 ^ n : Nat) : Int))) := by
  have hd : 2 ^ n ≠ 0 := Nat.ne_of_gt (Nat.pow_pos (by omega))
  have s1 := ref1_shr (N := a.natAbs) (m := n) (by omega) hn h0
  have l := lim_len_mono (Nat.div_le_self a.natAbs (2 ^ n))
  have l1 := lim_len1
  have s2 := ref1_AddL (N := a.natAbs / 2 ^ n) (D := 1) (by omega) (by omega)
  rw [lim_one] at s2
  have s3 := ref1_shl (N := a.natAbs / 2 ^ n) (m := n) (by omega) hn
  have l3 := lim_len_shl (a := a.natAbs / 2 ^ n) (n := n)
  have c := ref1_CmpL (N := a.natAbs / 2 ^ n * 2 ^ n) (D := a.natAbs) (by omega) (by omega)
  have e2 : (cmpN (a.natAbs / 2 ^ n * 2 ^ n) a.natAbs != 0) = decide (a.natAbs % 2 ^ n ≠ 0) := by
    rw [cmpN_ne]
    refine decide_eq_decide.2 ?_
    have := Nat.div_add_mod a.natAbs (2 ^ n)
    rw [Nat.mul_comm (2 ^ n)] at this
    omega
  have hl := fun (n : Nat) => lenpos (n := n)
  have l5 := lim_len_add (a := a.natAbs / 2 ^ n) (b := 1) (L := 100000) (by omega) (by omega)
  have e := fall_eq (a := a) hd
  have e0 : (0 : Int) - (n : Int) = -(n : Int) := by omega
  generalize 2 ^ n = D at *
  by_cases h : a < 0
  · by_cases h2 : a.natAbs % D = 0
    · rw [if_neg (fun g => g.2 h2)] at e
      rw [e, sgn_iv, decide_eq_true h]
      rw [h2] at e2
      have h0' : decide ((0 : Nat) ≠ 0) = false := rfl
      rw [h0'] at e2
      generalize cmpN (a.natAbs / D * D) a.natAbs = z at *
      generalize a.natAbs / D * D = y at *
      generalize a.natAbs / D = x at *
      refine Go.Ev.Fn.intro (fn := Tryz.f107) (body := (Tryz.f107).body.get!) (by kernel_rfl) (by kernel_rfl) (by kernel_rfl) (fun _ => rfl) (Nat.le_of_ble_eq_true (by kernel_rfl)) ?_; unfold Tryz.f107; simp only [Option.get!_some]
      repeat (first | (simp only [go_sem, Nat.reduceEqDiff, Nat.reduceAdd, Nat.reduceSub, Nat.reduceMul, Nat.reduceLeDiff, Nat.reduceLT, reduceIte, reduceCtorEq, Nat.succ_ne_zero, elemsC, Int.reduceToNat, Nat.reducePow, hl, e0, Bool.true_and, e2]) | (simp (disch := (first | omega | (simp only [AL, List.length_map]; omega))) only [AR, AL, ifT, ifF, take_all, List.length_cons, List.length_nil, Int.reduceToNat, Int.reducePow, Nat.reducePow, hl, e0, Bool.true_and, e2]) | (refine wk_intro (by kernel_rfl) ?_) | (refine vp_draw (id := 2) (l := [5, 16, 18]) (by kernel_rfl) ?_) | (refine vf_of (by first | exact s1 | exact s3 | exact c) ?_))
    · rw [if_pos ⟨h, h2⟩] at e
      rw [e, show -((a.natAbs / D + 1 : Nat) : Int) = sgn true (a.natAbs / D + 1) from rfl, sgn_iv]
      rw [decide_eq_true h2] at e2
      generalize cmpN (a.natAbs / D * D) a.natAbs = z at *
      generalize a.natAbs / D * D = y at *
      generalize a.natAbs / D + 1 = x' at *
      generalize a.natAbs / D = x at *
      refine Go.Ev.Fn.intro (fn := Tryz.f107) (body := (Tryz.f107).body.get!) (by kernel_rfl) (by kernel_rfl) (by kernel_rfl) (fun _ => rfl) (Nat.le_of_ble_eq_true (by kernel_rfl)) ?_; unfold Tryz.f107; simp only [Option.get!_some]
      repeat (first | (simp only [go_sem, Nat.reduceEqDiff, Nat.reduceAdd, Nat.reduceSub, Nat.reduceMul, Nat.reduceLeDiff, Nat.reduceLT, reduceIte, reduceCtorEq, Nat.succ_ne_zero, elemsC, Int.reduceToNat, Nat.reducePow, hl, e0, Bool.true_and, e2]) | (simp (disch := (first | omega | (simp only [AL, List.length_map]; omega))) only [AR, AL, ifT, ifF, take_all, List.length_cons, List.length_nil, Int.reduceToNat, Int.reducePow, Nat.reducePow, hl, e0, Bool.true_and, e2]) | (refine wk_intro (by kernel_rfl) ?_) | (refine vp_draw (id := 2) (l := [5, 16, 18]) (by kernel_rfl) ?_) | (refine vf_of (by first | exact s1 | exact s3 | exact c | exact s2) ?_))
  · rw [if_neg (fun g => h g.1)] at e
    rw [e, sgn_iv, decide_eq_false h]
    generalize a.natAbs / D = x at *
    refine Go.Ev.Fn.intro (fn := Tryz.f107) (body := (Tryz.f107).body.get!) (by kernel_rfl) (by kernel_rfl) (by kernel_rfl) (fun _ => rfl) (Nat.le_of_ble_eq_true (by kernel_rfl)) ?_; unfold Tryz.f107; simp only [Option.get!_some]
    repeat (first | (simp only [go_sem, Nat.reduceEqDiff, Nat.reduceAdd, Nat.reduceSub, Nat.reduceMul, Nat.reduceLeDiff, Nat.reduceLT, reduceIte, reduceCtorEq, Nat.succ_ne_zero, elemsC, Int.reduceToNat, Nat.reducePow, hl, e0, Bool.false_and]) | (simp (disch := (first | omega | (simp only [AL, List.length_map]; omega))) only [AR, AL, ifT, ifF, take_all, List.length_cons, List.length_nil, Int.reduceToNat, Int.reducePow, Nat.reducePow, hl, e0, Bool.false_and]) | (refine wk_intro (by kernel_rfl) ?_) | (refine vp_draw (id := 2) (l := [5, 16, 18]) (by kernel_rfl) ?_) | (refine vf_of (by first | exact s1) ?_))
theorem ref4_More (a : Int) (n : Nat) (ha : (lim a.natAbs).length ≤ 100000) (hn : n ≤ 4096) (h0 : 0 < n) : Go.Ev.Fn CX 108 [intV a, .int .i64 (n : Int)] (intV (cdZ a (2 ^ n))) := by
  have hd : 2 ^ n ≠ 0 := Nat.ne_of_gt (Nat.pow_pos (by omega))
  have o := ref4_Opp a (by omega)
  have f := ref4_Less (-a) n (by rw [Int.natAbs_neg]; exact ha) hn h0
  have l := lim_len_mono (abs_div_le (-a) hd)
  rw [Int.natAbs_neg a] at l
  have o2 := ref4_Opp (-a / ((2 ^ n : Nat) : Int)) (by omega)
  unfold cdZ
  generalize -a / ((2 ^ n : Nat) : Int) = y at *
  refine Go.Ev.Fn.intro (fn := Tryz.f108) (body := (Tryz.f108).body.get!) (by kernel_rfl) (by kernel_rfl) (by kernel_rfl) (fun _ => rfl) (Nat.le_of_ble_eq_true (by kernel_rfl)) ?_; unfold Tryz.f108; simp only [Option.get!_some]
  repeat (first | (simp only [go_sem, Nat.reduceEqDiff, Nat.reduceAdd, Nat.reduceSub, Nat.reduceMul, Nat.reduceLeDiff, Nat.reduceLT, reduceIte, reduceCtorEq, Nat.succ_ne_zero, elemsC, Int.reduceToNat, Nat.reducePow]) | (simp (disch := (first | omega | (simp only [AL, List.length_map]; omega))) only [AR, AL, ifT, ifF, take_all, List.length_cons, List.length_nil, Int.reduceToNat, Int.reducePow, Nat.reducePow]) | (refine wk_intro (by kernel_rfl) ?_) | (refine vf_of (by first | exact o | exact f | exact o2) ?_))
theorem mul_p2_abs (z : Int) (w : Nat) : (z * ((2 ^ w : Nat) : Int)).natAbs = z.natAbs * 2 ^ w := by rw [Int.natAbs_mul, Int.natAbs_natCast]
theorem ref4_Num {v : SV} {q : Rat} {L w : Nat} (hv : RatA v q L) (hL1 : 1 ≤ L) (hL : L ≤ 100000) (hw : w ≤ 4096) : Go.Ev.Fn CX 36 [v, .int .i64 (w : Int)] (ivV (q.num * ((2 ^ w : Nat) : Int) / (q.den : Int)) (cdZ (q.num * ((2 ^ w : Nat) : Int)) q.den)) := by
  have n1 := ref2_Norm hv (by omega)
  obtain ⟨z1, z2⟩ := szR_of hv hL1
  have s1 := ref1_shl (N := q.num.natAbs) (m := w) (by omega) hw
  have l1 := lim_len_shl (a := q.num.natAbs) (n := w)
  have hP : 0 < 2 ^ w := Nat.pow_pos (by omega)
  have ea := mul_p2_abs q.num w
  have en : decide (q.num * ((2 ^ w : Nat) : Int) < 0) = decide (q.num < 0) := decide_eq_decide.2 ⟨fun h => by
      rcases Int.lt_or_le q.num 0 with g | g
      · exact g
      · have := Int.mul_nonneg g (Int.natCast_nonneg (2 ^ w)); omega, fun h => Int.mul_neg_of_neg_of_pos h (by omega)⟩
  have f := ref4_Fall (q.num * ((2 ^ w : Nat) : Int)) q.den q.den_nz (by rw [ea]; omega) (by omega)
  have r := ref4_Rise (q.num * ((2 ^ w : Nat) : Int)) q.den q.den_nz (by rw [ea]; omega) (by omega)
  unfold intV at f r
  rw [ea, en] at f r
  obtain ⟨s, n, d, rfl, -⟩ := hv
  generalize q.num * ((2 ^ w : Nat) : Int) / (q.den : Int) = x at *
  generalize cdZ (q.num * ((2 ^ w : Nat) : Int)) q.den = y at *
  generalize q.num.natAbs * 2 ^ w = u at *
  refine Go.Ev.Fn.intro (fn := Tryz.f36) (body := (Tryz.f36).body.get!) (by kernel_rfl) (by kernel_rfl) (by kernel_rfl) (fun _ => rfl) (Nat.le_of_ble_eq_true (by kernel_rfl)) ?_; unfold Tryz.f36; simp only [Option.get!_some]
  repeat (first | (simp only [go_sem, Nat.reduceEqDiff, Nat.reduceAdd, Nat.reduceSub, Nat.reduceMul, Nat.reduceLeDiff, Nat.reduceLT, reduceIte, reduceCtorEq, Nat.succ_ne_zero, elemsC, Int.reduceToNat, Nat.reducePow]) | (simp (disch := (first | omega | (simp only [AL, List.length_map]; omega))) only [AR, AL, ifT, ifF, take_all, List.length_cons, List.length_nil, Int.reduceToNat, Int.reducePow, Nat.reducePow]) | (refine wk_intro (by kernel_rfl) ?_) | (refine vp_draw (id := 2) (l := [12]) (by kernel_rfl) ?_) | (refine vp_draw (id := 3) (l := [18, 22]) (by kernel_rfl) ?_) | (refine vf_of (by first | exact n1 | exact s1 | exact f | exact r) ?_))
section
variable {a b c d : Int} (ha : (lim a.natAbs).length ≤ 100000) (hb : (lim b.natAbs).length ≤ 100000) (hc : (lim c.natAbs).length ≤ 100000) (hd : (lim d.natAbs).length ≤ 100000)
include ha hb
theorem ref4_Sum (hc : (lim c.natAbs).length ≤ 100000) (hd : (lim d.natAbs).length ≤ 100000) : Go.Ev.Fn CX 114 [ivV a b, ivV c d] (ivV (a + c) (b + d)) := by
  have s1 := ref4_Plus a c (by omega) (by omega)
  have s2 := ref4_Plus b d (by omega) (by omega)
  generalize a + c = x at *
  generalize b + d = y at *
  refine Go.Ev.Fn.intro (fn := Tryz.f114) (body := (Tryz.f114).body.get!) (by kernel_rfl) (by kernel_rfl) (by kernel_rfl) (fun _ => rfl) (Nat.le_of_ble_eq_true (by kernel_rfl)) ?_; unfold Tryz.f114; simp only [Option.get!_some]
  repeat (first | (simp only [go_sem, Nat.reduceEqDiff, Nat.reduceAdd, Nat.reduceSub, Nat.reduceMul, Nat.reduceLeDiff, Nat.reduceLT, reduceIte, reduceCtorEq, Nat.succ_ne_zero, elemsC, Int.reduceToNat, Nat.reducePow]) | (simp (disch := (first | omega | (simp only [AL, List.length_map]; omega))) only [AR, AL, ifT, ifF, take_all, List.length_cons, List.length_nil, Int.reduceToNat, Int.reducePow, Nat.reducePow]) | (refine wk_intro (by kernel_rfl) ?_) | (refine vp_draw (id := 1) (l := []) (by kernel_rfl) ?_) | (refine vf_of (by first | exact s1 | exact s2) ?_))
theorem ref4_Minus (hc : (lim c.natAbs).length ≤ 100000) (hd : (lim d.natAbs).length ≤ 100000) : Go.Ev.Fn CX 37 [ivV a b, ivV c d] (ivV (a - d) (b - c)) := by
  have o1 := ref4_Opp d (by omega)
  have o2 := ref4_Opp c (by omega)
  have s1 := ref4_Plus a (-d) (by omega) (by rw [Int.natAbs_neg]; omega)
  have s2 := ref4_Plus b (-c) (by omega) (by rw [Int.natAbs_neg]; omega)
  rw [← Int.sub_eq_add_neg] at s1 s2
  generalize a - d = x at *
  generalize b - c = y at *
  refine Go.Ev.Fn.intro (fn := Tryz.f37) (body := (Tryz.f37).body.get!) (by kernel_rfl) (by kernel_rfl) (by kernel_rfl) (fun _ => rfl) (Nat.le_of_ble_eq_true (by kernel_rfl)) ?_; unfold Tryz.f37; simp only [Option.get!_some]
  repeat (first | (simp only [go_sem, Nat.reduceEqDiff, Nat.reduceAdd, Nat.reduceSub, Nat.reduceMul, Nat.reduceLeDiff, Nat.reduceLT, reduceIte, reduceCtorEq, Nat.succ_ne_zero, elemsC, Int.reduceToNat, Nat.reducePow]) | (simp (disch := (first | omega | (simp only [AL, List.length_map]; omega))) only [AR, AL, ifT, ifF, take_all, List.length_cons, List.length_nil, Int.reduceToNat, Int.reducePow, Nat.reducePow]) | (refine wk_intro (by kernel_rfl) ?_) | (refine vp_draw (id := 1) (l := []) (by kernel_rfl) ?_) | (refine vf_of (by first | exact o1 | exact s1 | exact o2 | exact s2) ?_))
theorem ref4_Often (n : Int) (hn : -4294967296 < n ∧ n < 4294967296) : Go.Ev.Fn CX 112 [ivV a b, .int .i64 n] (ivV (a * n) (b * n)) := by
  have w := ref4_Whole n (by omega)
  have l : (lim n.natAbs).length ≤ 1 := lim_len_one (by omega)
  have s1 := ref4_Times a n (by omega) (by omega)
  have s2 := ref4_Times b n (by omega) (by omega)
  generalize a * n = x at *
  generalize b * n = y at *
  refine Go.Ev.Fn.intro (fn := Tryz.f112) (body := (Tryz.f112).body.get!) (by kernel_rfl) (by kernel_rfl) (by kernel_rfl) (fun _ => rfl) (Nat.le_of_ble_eq_true (by kernel_rfl)) ?_; unfold Tryz.f112; simp only [Option.get!_some]
  repeat (first | (simp only [go_sem, Nat.reduceEqDiff, Nat.reduceAdd, Nat.reduceSub, Nat.reduceMul, Nat.reduceLeDiff, Nat.reduceLT, reduceIte, reduceCtorEq, Nat.succ_ne_zero, elemsC, Int.reduceToNat, Nat.reducePow]) | (simp (disch := (first | omega | (simp only [AL, List.length_map]; omega))) only [AR, AL, ifT, ifF, take_all, List.length_cons, List.length_nil, Int.reduceToNat, Int.reducePow, Nat.reducePow]) | (refine wk_intro (by kernel_rfl) ?_) | (refine vp_draw (id := 1) (l := []) (by kernel_rfl) ?_) | (refine vf_of (by first | exact w | exact s1 | exact s2) ?_))
theorem ref4_By (n : Nat) (h0 : 0 < n) (hn : n < 9223372036854775808) : Go.Ev.Fn CX 113 [ivV a b, .int .i64 (n : Int)] (ivV (a / (n : Int)) (cdZ b n)) := by
  have o := ref1_Of n (by omega)
  have l : (lim n).length ≤ 2 := lim_len_lt (by omega)
  have f := ref4_Fall a n (by omega) (by omega) (by omega)
  have r := ref4_Rise b n (by omega) (by omega) (by omega)
  generalize a / (n : Int) = x at *
  generalize cdZ b n = y at *
  refine Go.Ev.Fn.intro (fn := Tryz.f113) (body := (Tryz.f113).body.get!) (by kernel_rfl) (by kernel_rfl) (by kernel_rfl) (fun _ => rfl) (Nat.le_of_ble_eq_true (by kernel_rfl)) ?_; unfold Tryz.f113; simp only [Option.get!_some]
  repeat (first | (simp only [go_sem, Nat.reduceEqDiff, Nat.reduceAdd, Nat.reduceSub, Nat.reduceMul, Nat.reduceLeDiff, Nat.reduceLT, reduceIte, reduceCtorEq, Nat.succ_ne_zero, elemsC, Int.reduceToNat, Nat.reducePow]) | (simp (disch := (first | omega | (simp only [AL, List.length_map]; omega))) only [AR, AL, ifT, ifF, take_all, List.length_cons, List.length_nil, Int.reduceToNat, Int.reducePow, Nat.reducePow]) | (refine wk_intro (by kernel_rfl) ?_) | (refine vp_draw (id := 2) (l := [5, 5]) (by kernel_rfl) ?_) | (refine vf_of (by first | exact o | exact f | exact r) ?_))
theorem ref4_Wide (n : Int) (hn : -4294967296 < n ∧ n < 4294967296) : Go.Ev.Fn CX 117 [ivV a b, .int .i64 n] (ivV (a - n) (b + n)) := by
  have w1 := ref4_Whole (-n) (by omega)
  have w2 := ref4_Whole n (by omega)
  have l : (lim n.natAbs).length ≤ 1 := lim_len_one (by omega)
  have s1 := ref4_Plus a (-n) (by omega) (by rw [Int.natAbs_neg]; omega)
  have s2 := ref4_Plus b n (by omega) (by omega)
  rw [← Int.sub_eq_add_neg] at s1
  have e0 : 0 - n = -n := by omega
  generalize a - n = x at *
  generalize b + n = y at *
  refine Go.Ev.Fn.intro (fn := Tryz.f117) (body := (Tryz.f117).body.get!) (by kernel_rfl) (by kernel_rfl) (by kernel_rfl) (fun _ => rfl) (Nat.le_of_ble_eq_true (by kernel_rfl)) ?_; unfold Tryz.f117; simp only [Option.get!_some]
  repeat (first | (simp only [go_sem, Nat.reduceEqDiff, Nat.reduceAdd, Nat.reduceSub, Nat.reduceMul, Nat.reduceLeDiff, Nat.reduceLT, reduceIte, reduceCtorEq, Nat.succ_ne_zero, elemsC, Int.reduceToNat, Nat.reducePow, e0]) | (simp (disch := (first | omega | (simp only [AL, List.length_map]; omega))) only [AR, AL, ifT, ifF, take_all, List.length_cons, List.length_nil, Int.reduceToNat, Int.reducePow, Nat.reducePow, e0]) | (refine wk_intro (by kernel_rfl) ?_) | (refine vp_draw (id := 1) (l := []) (by kernel_rfl) ?_) | (refine vf_of (by first | exact w1 | exact s1 | exact w2 | exact s2) ?_))
theorem ref4_Most : Go.Ev.Fn CX 115 [ivV a b] (intV ((max a.natAbs b.natAbs : Nat) : Int)) := by
  have c := ref4_Cmp (a.natAbs : Int) (b.natAbs : Int) (by rw [Int.natAbs_natCast]; exact ha) (by rw [Int.natAbs_natCast]; exact hb)
  have q : ∀ n : Nat, intV (n : Int) = .agg [.bool false, natV (lim n)] := fun n => iv_eq (Int.natAbs_natCast n) (decide_eq_false (by omega))
  rw [q, q] at c
  rw [q]
  by_cases h : b.natAbs < a.natAbs
  · have e : decide (cmpZ (a.natAbs : Int) (b.natAbs : Int) > 0) = true := decide_eq_true (by unfold cmpZ; rw [if_neg (by omega), if_neg (by omega)]; omega)
    rw [Nat.max_eq_left (by omega)]
    generalize cmpZ (a.natAbs : Int) (b.natAbs : Int) = z at *
    refine Go.Ev.Fn.intro (fn := Tryz.f115) (body := (Tryz.f115).body.get!) (by kernel_rfl) (by kernel_rfl) (by kernel_rfl) (fun _ => rfl) (Nat.le_of_ble_eq_true (by kernel_rfl)) ?_; unfold Tryz.f115; simp only [Option.get!_some]
    repeat (first | (simp only [go_sem, Nat.reduceEqDiff, Nat.reduceAdd, Nat.reduceSub, Nat.reduceMul, Nat.reduceLeDiff, Nat.reduceLT, reduceIte, reduceCtorEq, Nat.succ_ne_zero, elemsC, Int.reduceToNat, Nat.reducePow, e]) | (simp (disch := (first | omega | (simp only [AL, List.length_map]; omega))) only [AR, AL, ifT, ifF, take_all, List.length_cons, List.length_nil, Int.reduceToNat, Int.reducePow, Nat.reducePow, e]) | (refine wk_intro (by kernel_rfl) ?_) | (refine vp_draw (id := 1) (l := []) (by kernel_rfl) ?_) | (refine vf_of (by first | exact c) ?_))
  · have e : decide (cmpZ (a.natAbs : Int) (b.natAbs : Int) > 0) = false := decide_eq_false (by unfold cmpZ; split <;> (try split) <;> omega)
    rw [Nat.max_eq_right (by omega)]
    generalize cmpZ (a.natAbs : Int) (b.natAbs : Int) = z at *
    refine Go.Ev.Fn.intro (fn := Tryz.f115) (body := (Tryz.f115).body.get!) (by kernel_rfl) (by kernel_rfl) (by kernel_rfl) (fun _ => rfl) (Nat.le_of_ble_eq_true (by kernel_rfl)) ?_; unfold Tryz.f115; simp only [Option.get!_some]
    repeat (first | (simp only [go_sem, Nat.reduceEqDiff, Nat.reduceAdd, Nat.reduceSub, Nat.reduceMul, Nat.reduceLeDiff, Nat.reduceLT, reduceIte, reduceCtorEq, Nat.succ_ne_zero, elemsC, Int.reduceToNat, Nat.reducePow, e]) | (simp (disch := (first | omega | (simp only [AL, List.length_map]; omega))) only [AR, AL, ifT, ifF, take_all, List.length_cons, List.length_nil, Int.reduceToNat, Int.reducePow, Nat.reducePow, e]) | (refine wk_intro (by kernel_rfl) ?_) | (refine vp_draw (id := 1) (l := []) (by kernel_rfl) ?_) | (refine vf_of (by first | exact c) ?_))
theorem ref4_Back (n : Nat) (hn : n ≤ 4096) (h0 : 0 < n) : Go.Ev.Fn CX 72 [ivV a b, .int .i64 (n : Int)] (ivV (a / ((2 ^ n : Nat) : Int)) (cdZ b (2 ^ n))) := by
  have s1 := ref4_Less a n ha hn h0
  have s2 := ref4_More b n hb hn h0
  generalize a / ((2 ^ n : Nat) : Int) = x at *
  generalize cdZ b (2 ^ n) = y at *
  refine Go.Ev.Fn.intro (fn := Tryz.f72) (body := (Tryz.f72).body.get!) (by kernel_rfl) (by kernel_rfl) (by kernel_rfl) (fun _ => rfl) (Nat.le_of_ble_eq_true (by kernel_rfl)) ?_; unfold Tryz.f72; simp only [Option.get!_some]
  repeat (first | (simp only [go_sem, Nat.reduceEqDiff, Nat.reduceAdd, Nat.reduceSub, Nat.reduceMul, Nat.reduceLeDiff, Nat.reduceLT, reduceIte, reduceCtorEq, Nat.succ_ne_zero, elemsC, Int.reduceToNat, Nat.reducePow]) | (simp (disch := (first | omega | (simp only [AL, List.length_map]; omega))) only [AR, AL, ifT, ifF, take_all, List.length_cons, List.length_nil, Int.reduceToNat, Int.reducePow, Nat.reducePow]) | (refine wk_intro (by kernel_rfl) ?_) | (refine vp_draw (id := 1) (l := []) (by kernel_rfl) ?_) | (refine vf_of (by first | exact s1 | exact s2) ?_))
omit hb in
theorem ref4_Rat (w : Nat) (hw : w ≤ 4096) : Go.Ev.Fn CX 64 [intV a, .int .i64 (w : Int)] (rv (mkRat a (2 ^ w))) := by
  have p := ref4_pow2 (n := w) hw
  have l := lim_len_shl (a := 1) (n := w)
  have l1 := lim_len1
  rw [Nat.one_mul] at l
  have o := ref2_OfL (s := decide (a < 0)) (n := a.natAbs) (d := 2 ^ w) (by omega) (by omega)
  rw [sgn_self] at o
  generalize 2 ^ w = D at *
  refine Go.Ev.Fn.intro (fn := Tryz.f64) (body := (Tryz.f64).body.get!) (by kernel_rfl) (by kernel_rfl) (by kernel_rfl) (fun _ => rfl) (Nat.le_of_ble_eq_true (by kernel_rfl)) ?_; unfold Tryz.f64; simp only [Option.get!_some]
  repeat (first | (simp only [go_sem, Nat.reduceEqDiff, Nat.reduceAdd, Nat.reduceSub, Nat.reduceMul, Nat.reduceLeDiff, Nat.reduceLT, reduceIte, reduceCtorEq, Nat.succ_ne_zero, elemsC, Int.reduceToNat, Nat.reducePow]) | (simp (disch := (first | omega | (simp only [AL, List.length_map]; omega))) only [AR, AL, ifT, ifF, take_all, List.length_cons, List.length_nil, Int.reduceToNat, Int.reducePow, Nat.reducePow]) | (refine wk_intro (by kernel_rfl) ?_) | (refine vp_draw (id := 1) (l := [8, 10]) (by kernel_rfl) ?_) | (refine vf_of (by first | exact p | exact o) ?_))
theorem ref4_Ball (w : Nat) (hw : w ≤ 4096) : Go.Ev.Fn CX 34 [ivV a b, .int .i64 (w : Int)] (ballR (mkRat a (2 ^ w)) (mkRat b (2 ^ w))) := by
  have s1 := ref4_Rat ha w hw
  have s2 := ref4_Rat hb w hw
  generalize mkRat a (2 ^ w) = x at *
  generalize mkRat b (2 ^ w) = y at *
  refine Go.Ev.Fn.intro (fn := Tryz.f34) (body := (Tryz.f34).body.get!) (by kernel_rfl) (by kernel_rfl) (by kernel_rfl) (fun _ => rfl) (Nat.le_of_ble_eq_true (by kernel_rfl)) ?_; unfold Tryz.f34; simp only [Option.get!_some]
  repeat (first | (simp only [go_sem, Nat.reduceEqDiff, Nat.reduceAdd, Nat.reduceSub, Nat.reduceMul, Nat.reduceLeDiff, Nat.reduceLT, reduceIte, reduceCtorEq, Nat.succ_ne_zero, elemsC, Int.reduceToNat, Nat.reducePow]) | (simp (disch := (first | omega | (simp only [AL, List.length_map]; omega))) only [AR, AL, ifT, ifF, take_all, List.length_cons, List.length_nil, Int.reduceToNat, Int.reducePow, Nat.reducePow]) | (refine wk_intro (by kernel_rfl) ?_) | (refine vp_draw (id := 1) (l := []) (by kernel_rfl) ?_) | (refine vf_of (by first | exact s1 | exact s2) ?_))
end
end Go.Proofs.YtigiblhmhmgagaaGreat

/- fix.Shift, in the evaluator. -/
namespace Go.Proofs.YtigiblhmhmgagaaGreat
set_option linter.unusedSimpArgs false
set_option linter.unusedVariables false
set_option maxRecDepth 8000
open Go.Ev
theorem nat_shl {N m : Nat} (h : (lim N).length ≤ 1073741824) (hm : m ≤ 4096) : Go.Ev.Fn CX 93 [natV (lim N), .int .i64 (m : Int)] (natV (lim (N * 2 ^ m))) := by
  have := shift_up (lim N) m (okL_lim _) h _ rfl hm
  rwa [wth_lim] at this
theorem nat_shr {N m : Nat} (h : (lim N).length ≤ 1073741824) (hm : m ≤ 4096) (h0 : 0 < m) : Go.Ev.Fn CX 93 [natV (lim N), .int .i64 (-(m : Int))] (natV (lim (N / 2 ^ m))) := by
  have := shift_down (lim N) m (okL_lim _) h _ rfl hm h0
  rwa [wth_lim] at this
theorem fix_shl {a m : Nat} (ha : (lim a).length ≤ 100000) (hm : m ≤ 100000) : Go.Ev.Fn CX 52 [natV (lim a), .int .i64 (m : Int)] (natV (lim (a * 2 ^ m))) := by
  have hl := fun j => lim_len_shl (a := a) (n := j)
  refine Go.Ev.Fn.intro (fn := Tryz.f52) (body := (Tryz.f52).body.get!) (by kernel_rfl) (by kernel_rfl) (by kernel_rfl) (fun _ => rfl) (Nat.le_of_ble_eq_true (by kernel_rfl)) ?_; unfold Tryz.f52; simp only [Option.get!_some]
  repeat (first | (simp only [go_sem, Nat.reduceEqDiff, Nat.reduceAdd, Nat.reduceSub, Nat.reduceMul, Nat.reduceLeDiff, Nat.reduceLT, reduceIte, reduceCtorEq, Nat.succ_ne_zero, elemsC, Int.reduceToNat, Nat.reducePow]) | (simp (disch := (first | omega | (simp only [AL, List.length_map]; omega))) only [AR, AL, ifT, ifF, take_all, List.length_cons, List.length_nil, Int.reduceToNat, Int.reducePow, Nat.reducePow]) | (refine wk_intro (by kernel_rfl) ?_))
  refine vp_loop_inv (fun s => ∃ j : Nat, j ≤ m ∧ s.tmp 0 = .sv (natV (lim (a * 2 ^ j))) ∧ s.tmp 1 = .sv (.int .i64 ((m - j : Nat) : Int)))
    (fun s => match s.tmp 1 with | .sv (.int _ i) => i.toNat | _ => 0) ⟨0, by omega, by rw [Nat.pow_zero, Nat.mul_one]; rfl, rfl⟩ ?_
  rintro s ⟨j, hj, i0, i1⟩
  have hlj := hl j
  by_cases hc : 1024 < m - j
  · obtain ⟨K, hK⟩ : ∃ K : Nat, K = 1024 := ⟨_, rfl⟩
    have st := nat_shl (N := a * 2 ^ j) (m := K) (by omega) (by omega)
    rw [Nat.mul_assoc, ← Nat.pow_add] at st
    generalize hx : a * 2 ^ j = x at *
    generalize hy : a * 2 ^ (j + K) = y at *
    rw [show (K : Int) = 1024 by omega] at st
    repeat (first | (simp only [go_sem, Nat.reduceEqDiff, Nat.reduceAdd, Nat.reduceSub, Nat.reduceMul, Nat.reduceLeDiff, Nat.reduceLT, reduceIte, reduceCtorEq, Nat.succ_ne_zero, elemsC, Int.reduceToNat, Nat.reducePow, i0, i1]) | (simp (disch := (first | omega | (simp only [AL, List.length_map]; omega))) only [AR, AL, ifT, ifF, take_all, List.length_cons, List.length_nil, Int.reduceToNat, Int.reducePow, Nat.reducePow, i0, i1]) | (refine wk_intro (by kernel_rfl) ?_) | (refine vf_of (by first | exact st) ?_))
    exact ⟨⟨j + K, by omega, by rw [hy], by rw [show ((m - (j + K) : Nat) : Int) = ((m - j : Nat) : Int) - 1024 by omega]⟩, by omega⟩
  · have st := nat_shl (N := a * 2 ^ j) (m := m - j) (by omega) (by omega)
    rw [Nat.mul_assoc, ← Nat.pow_add, show j + (m - j) = m by omega] at st
    generalize a * 2 ^ j = x at *
    generalize a * 2 ^ m = y at *
    repeat (first | (simp only [go_sem, Nat.reduceEqDiff, Nat.reduceAdd, Nat.reduceSub, Nat.reduceMul, Nat.reduceLeDiff, Nat.reduceLT, reduceIte, reduceCtorEq, Nat.succ_ne_zero, elemsC, Int.reduceToNat, Nat.reducePow, i0, i1]) | (simp (disch := (first | omega | (simp only [AL, List.length_map]; omega))) only [AR, AL, ifT, ifF, take_all, List.length_cons, List.length_nil, Int.reduceToNat, Int.reducePow, Nat.reducePow, i0, i1]) | (refine wk_intro (by kernel_rfl) ?_))
    refine vp_loop_inv (fun s => s.tmp 0 = .sv (natV (lim x)) ∧ s.tmp 1 = .sv (.int .i64 ((m - j : Nat) : Int))) (fun _ => 0) ⟨i0, i1⟩ ?_
    rintro s' ⟨j0, j1⟩
    repeat (first | (simp only [go_sem, Nat.reduceEqDiff, Nat.reduceAdd, Nat.reduceSub, Nat.reduceMul, Nat.reduceLeDiff, Nat.reduceLT, reduceIte, reduceCtorEq, Nat.succ_ne_zero, elemsC, Int.reduceToNat, Nat.reducePow, j0, j1]) | (simp (disch := (first | omega | (simp only [AL, List.length_map]; omega))) only [AR, AL, ifT, ifF, take_all, List.length_cons, List.length_nil, Int.reduceToNat, Int.reducePow, Nat.reducePow, j0, j1]) | (refine wk_intro (by kernel_rfl) ?_) | (refine vf_of (by first | exact st) ?_))
theorem fix_shr {a m : Nat} (ha : (lim a).length ≤ 100000) (hm : m ≤ 100000) (h0 : 0 < m) : Go.Ev.Fn CX 52 [natV (lim a), .int .i64 (-(m : Int))] (natV (lim (a / 2 ^ m))) := by
  have hl := fun j => lim_len_mono (Nat.div_le_self a (2 ^ j))
  refine Go.Ev.Fn.intro (fn := Tryz.f52) (body := (Tryz.f52).body.get!) (by kernel_rfl) (by kernel_rfl) (by kernel_rfl) (fun _ => rfl) (Nat.le_of_ble_eq_true (by kernel_rfl)) ?_; unfold Tryz.f52; simp only [Option.get!_some]
  repeat (first | (simp only [go_sem, Nat.reduceEqDiff, Nat.reduceAdd, Nat.reduceSub, Nat.reduceMul, Nat.reduceLeDiff, Nat.reduceLT, reduceIte, reduceCtorEq, Nat.succ_ne_zero, elemsC, Int.reduceToNat, Nat.reducePow]) | (simp (disch := (first | omega | (simp only [AL, List.length_map]; omega))) only [AR, AL, ifT, ifF, take_all, List.length_cons, List.length_nil, Int.reduceToNat, Int.reducePow, Nat.reducePow]) | (refine wk_intro (by kernel_rfl) ?_))
  refine vp_loop_inv (fun s => s.tmp 0 = .sv (natV (lim a)) ∧ s.tmp 1 = .sv (.int .i64 (-(m : Int)))) (fun _ => 0) ⟨rfl, rfl⟩ ?_
  rintro s ⟨i0, i1⟩
  repeat (first | (simp only [go_sem, Nat.reduceEqDiff, Nat.reduceAdd, Nat.reduceSub, Nat.reduceMul, Nat.reduceLeDiff, Nat.reduceLT, reduceIte, reduceCtorEq, Nat.succ_ne_zero, elemsC, Int.reduceToNat, Nat.reducePow, i0, i1]) | (simp (disch := (first | omega | (simp only [AL, List.length_map]; omega))) only [AR, AL, ifT, ifF, take_all, List.length_cons, List.length_nil, Int.reduceToNat, Int.reducePow, Nat.reducePow, i0, i1]) | (refine wk_intro (by kernel_rfl) ?_))
  refine vp_loop_inv (fun s => ∃ j : Nat, j < m ∧ s.tmp 0 = .sv (natV (lim (a / 2 ^ j))) ∧ s.tmp 1 = .sv (.int .i64 (-((m - j : Nat) : Int))))
    (fun s => match s.tmp 1 with | .sv (.int _ i) => (-i).toNat | _ => 0) ⟨0, by omega, by rw [Nat.pow_zero, Nat.div_one]; exact i0, i1⟩ ?_
  rintro s2 ⟨j, hj, j0, j1⟩
  have hlj := hl j
  by_cases hc : 1024 < m - j
  · obtain ⟨K, hK⟩ : ∃ K : Nat, K = 1024 := ⟨_, rfl⟩
    have st := nat_shr (N := a / 2 ^ j) (m := K) (by omega) (by omega) (by omega)
    rw [Nat.div_div_eq_div_mul, ← Nat.pow_add] at st
    generalize hx : a / 2 ^ j = x at *
    generalize hy : a / 2 ^ (j + K) = y at *
    rw [show -(K : Int) = -1024 by omega] at st
    repeat (first | (simp only [go_sem, Nat.reduceEqDiff, Nat.reduceAdd, Nat.reduceSub, Nat.reduceMul, Nat.reduceLeDiff, Nat.reduceLT, reduceIte, reduceCtorEq, Nat.succ_ne_zero, elemsC, Int.reduceToNat, Nat.reducePow, j0, j1]) | (simp (disch := (first | omega | (simp only [AL, List.length_map]; omega))) only [AR, AL, ifT, ifF, take_all, List.length_cons, List.length_nil, Int.reduceToNat, Int.reducePow, Nat.reducePow, j0, j1]) | (refine wk_intro (by kernel_rfl) ?_) | (refine vf_of (by first | exact st) ?_))
    exact ⟨⟨j + K, by omega, by rw [hy], by rw [show -((m - (j + K) : Nat) : Int) = -((m - j : Nat) : Int) + 1024 by omega]⟩, by omega⟩
  · have st := nat_shr (N := a / 2 ^ j) (m := m - j) (by omega) (by omega) (by omega)
    rw [Nat.div_div_eq_div_mul, ← Nat.pow_add, show j + (m - j) = m by omega] at st
    generalize a / 2 ^ j = x at *
    generalize a / 2 ^ m = y at *
    repeat (first | (simp only [go_sem, Nat.reduceEqDiff, Nat.reduceAdd, Nat.reduceSub, Nat.reduceMul, Nat.reduceLeDiff, Nat.reduceLT, reduceIte, reduceCtorEq, Nat.succ_ne_zero, elemsC, Int.reduceToNat, Nat.reducePow, j0, j1]) | (simp (disch := (first | omega | (simp only [AL, List.length_map]; omega))) only [AR, AL, ifT, ifF, take_all, List.length_cons, List.length_nil, Int.reduceToNat, Int.reducePow, Nat.reducePow, j0, j1]) | (refine wk_intro (by kernel_rfl) ?_) | (refine vf_of (by first | exact st) ?_))
end Go.Proofs.YtigiblhmhmgagaaGreat

/- nat.Bits, fix.Small; vernierref1.Bits, vernierref4.root, Sqrt, in the evaluator. -/
namespace Go.Proofs.YtigiblhmhmgagaaGreat
set_option linter.unusedSimpArgs false
set_option linter.unusedVariables false
set_option maxRecDepth 8000
open Go.Ev
theorem blen_iff {x k : Nat} : blen x ≤ k ↔ x < 2 ^ k := by
  unfold blen
  by_cases h : x = 0
  · rw [if_pos h, h]
    have : 0 < 2 ^ k := Nat.pow_pos (by omega)
    omega
  · rw [if_neg h]
    have := Nat.log2_lt (n := x) (k := k) h
    omega
theorem blen_lims (N : Nat) (h : N ≠ 0) : blen N = 32 * ((lim N).length - 1) + blen ((lim N).getD ((lim N).length - 1) 0) := by
  have h0 := lim_pos h
  have ht := trimL_getD (trimL_lim N) h0
  have hw := wth_lim N
  have hok := okL_lim N
  generalize lim N = a at *
  have h1 := wth_at a (w := a.length - 1) (by omega)
  rw [List.drop_of_length_le (by omega), show wth [] = 0 from rfl, Nat.mul_zero, Nat.add_zero, hw] at h1
  have h2 := wth_lt (okL_take hok (a.length - 1))
  rw [List.length_take, Nat.min_eq_left (by omega)] at h2
  rw [show (4294967296 : Nat) = 2 ^ 32 from rfl, ← Nat.pow_mul] at h1 h2
  have hp : 0 < 2 ^ (32 * (a.length - 1)) := Nat.pow_pos (by omega)
  have h3 : N / 2 ^ (32 * (a.length - 1)) = a.getD (a.length - 1) 0 := by
    rw [h1, Nat.add_mul_div_left _ _ hp, Nat.div_eq_of_lt h2, Nat.zero_add]
  have h4 : 2 ^ (32 * (a.length - 1)) ≤ N := by
    have := Nat.mul_le_mul_left (2 ^ (32 * (a.length - 1))) (show 1 ≤ a.getD (a.length - 1) 0 by omega)
    omega
  rw [blen_shift h4, h3]
theorem nat_Bits {N : Nat} (h : (lim N).length ≤ 1000000) : Go.Ev.Fn CX 100 [natV (lim N)] (.int .i64 (blen N : Nat)) := by
  have t := nat_trim (lim N) (okL_lim N) (by omega)
  rw [wth_lim] at t
  by_cases h0 : N = 0
  · subst h0
    have e : (lim 0).length = 0 := by rw [lim_zero]; rfl
    have e2 : blen 0 = 0 := rfl
    rw [e2]
    refine Go.Ev.Fn.intro (fn := Tryz.f100) (body := (Tryz.f100).body.get!) (by kernel_rfl) (by kernel_rfl) (by kernel_rfl) (fun _ => rfl) (Nat.le_of_ble_eq_true (by kernel_rfl)) ?_; unfold Tryz.f100; simp only [Option.get!_some]
    repeat (first | (simp only [go_sem, Nat.reduceEqDiff, Nat.reduceAdd, Nat.reduceSub, Nat.reduceMul, Nat.reduceLeDiff, Nat.reduceLT, reduceIte, reduceCtorEq, Nat.succ_ne_zero, elemsC, Int.reduceToNat, Nat.reducePow]) | (simp (disch := (first | omega | (simp only [AL, List.length_map]; omega))) only [AR, AL, ifT, ifF, take_all, List.length_cons, List.length_nil, Int.reduceToNat, Int.reducePow, Nat.reducePow]) | (refine wk_intro (by kernel_rfl) ?_) | (refine vf_of (by first | exact t) ?_))
    rfl
  · have e := blen_lims N h0
    have hl := lim_pos h0
    have hg := getD_lt (okL_lim N) ((lim N).length - 1)
    have b := bits_Len32 _ hg
    have hb : blen ((lim N).getD ((lim N).length - 1) 0) ≤ 32 := blen_iff.2 hg
    rw [e]
    generalize hgx : (lim N).getD ((lim N).length - 1) 0 = x at *
    generalize hcs : lim N = cs at *
    have hi : (cs.map limb).length = cs.length := List.length_map _
    have hat : ((cs.map limb).drop (cs.length - 1)).head? = some (limb x) := by
      rw [List.head?_drop, List.getElem?_map, List.getElem?_eq_getElem (by omega)]
      rw [List.getD_eq_getElem?_getD, List.getElem?_eq_getElem (by omega)] at hgx
      rw [← hgx]; rfl
    generalize blen x = y at *
    refine Go.Ev.Fn.intro (fn := Tryz.f100) (body := (Tryz.f100).body.get!) (by kernel_rfl) (by kernel_rfl) (by kernel_rfl) (fun _ => rfl) (Nat.le_of_ble_eq_true (by kernel_rfl)) ?_; unfold Tryz.f100; simp only [Option.get!_some]
    repeat (first | (simp only [go_sem, Nat.reduceEqDiff, Nat.reduceAdd, Nat.reduceSub, Nat.reduceMul, Nat.reduceLeDiff, Nat.reduceLT, reduceIte, reduceCtorEq, Nat.succ_ne_zero, elemsC, Int.reduceToNat, Nat.reducePow, hgx]) | (simp (disch := (first | omega | (simp only [AL, List.length_map]; omega))) only [AR, AL, ifT, ifF, take_all, List.length_cons, List.length_nil, Int.reduceToNat, Int.reducePow, Nat.reducePow, hgx]) | (refine wk_intro (by kernel_rfl) ?_) | (refine vf_of (by first | exact t | exact b) ?_))
    congr 1
theorem fix_Small {a b : Nat} (h : (lim b).length ≤ 1000000) {k : Nat} (hk : k ≤ 1000) : Go.Ev.Fn CX 57 [spanV a b, .int .i64 (k : Int)] (.bool (decide (b < 2 ^ k))) := by
  have s := nat_Bits h
  rw [show decide (b < 2 ^ k) = decide (((blen b : Nat) : Int) ≤ (k : Int)) from decide_eq_decide.2 (by rw [← blen_iff]; omega)]
  generalize blen b = x at *
  refine Go.Ev.Fn.intro (fn := Tryz.f57) (body := (Tryz.f57).body.get!) (by kernel_rfl) (by kernel_rfl) (by kernel_rfl) (fun _ => rfl) (Nat.le_of_ble_eq_true (by kernel_rfl)) ?_; unfold Tryz.f57; simp only [Option.get!_some]
  repeat (first | (simp only [go_sem, Nat.reduceEqDiff, Nat.reduceAdd, Nat.reduceSub, Nat.reduceMul, Nat.reduceLeDiff, Nat.reduceLT, reduceIte, reduceCtorEq, Nat.succ_ne_zero, elemsC, Int.reduceToNat, Nat.reducePow]) | (simp (disch := (first | omega | (simp only [AL, List.length_map]; omega))) only [AR, AL, ifT, ifF, take_all, List.length_cons, List.length_nil, Int.reduceToNat, Int.reducePow, Nat.reducePow]) | (refine wk_intro (by kernel_rfl) ?_) | (refine vf_of (by first | exact s) ?_))
end Go.Proofs.YtigiblhmhmgagaaGreat

/- vernierref1.Bits; vernierref4.root, Sqrt, in the evaluator. -/
namespace Go.Proofs.YtigiblhmhmgagaaGreat
set_option linter.unusedSimpArgs false
set_option linter.unusedVariables false
set_option maxRecDepth 8000
open Go.Ev
theorem blen_half {x : Nat} (h : x ≠ 0) : blen x = blen (x / 2) + 1 := by
  have h1 := blen_iff (x := x) (k := blen x)
  have h2 := blen_iff (x := x / 2) (k := blen (x / 2))
  have h3 := blen_iff (x := x) (k := blen (x / 2) + 1)
  have h4 := blen_iff (x := x / 2) (k := blen x - 1)
  have h5 : blen x ≠ 0 := fun e => by rw [e] at h1; simp at h1; omega
  have h6 : x < 2 ^ blen x := h1.1 (Nat.le_refl _)
  have h7 : x / 2 < 2 ^ blen (x / 2) := h2.1 (Nat.le_refl _)
  rw [Nat.pow_succ] at h3
  have h8 : 2 ^ blen x = 2 ^ (blen x - 1) * 2 := by rw [← Nat.pow_succ, Nat.succ_eq_add_one, show blen x - 1 + 1 = blen x by omega]
  have h9 := h3.2 (by omega)
  have h10 := h4.2 (by omega)
  omega
theorem ref1_Bits {N : Nat} (h : (lim N).length ≤ 1000000) : Go.Ev.Fn CX 150 [natV (lim N)] (.int .i64 (blen N : Nat)) := by
  have t := ref1_Trim (lim N) (okL_lim N) (by omega)
  rw [wth_lim] at t
  by_cases h0 : N = 0
  · subst h0
    have e : (lim 0).length = 0 := by rw [lim_zero]; rfl
    have e2 : blen 0 = 0 := rfl
    rw [e2]
    refine Go.Ev.Fn.intro (fn := Tryz.f150) (body := (Tryz.f150).body.get!) (by kernel_rfl) (by kernel_rfl) (by kernel_rfl) (fun _ => rfl) (Nat.le_of_ble_eq_true (by kernel_rfl)) ?_; unfold Tryz.f150; simp only [Option.get!_some]
    repeat (first | (simp only [go_sem, Nat.reduceEqDiff, Nat.reduceAdd, Nat.reduceSub, Nat.reduceMul, Nat.reduceLeDiff, Nat.reduceLT, reduceIte, reduceCtorEq, Nat.succ_ne_zero, elemsC, Int.reduceToNat, Nat.reducePow]) | (simp (disch := (first | omega | (simp only [AL, List.length_map]; omega))) only [AR, AL, ifT, ifF, take_all, List.length_cons, List.length_nil, Int.reduceToNat, Int.reducePow, Nat.reducePow]) | (refine wk_intro (by kernel_rfl) ?_) | (refine vf_of (by first | exact t) ?_))
    rfl
  · have e := blen_lims N h0
    have hl := lim_pos h0
    have hg := getD_lt (okL_lim N) ((lim N).length - 1)
    have hb : blen ((lim N).getD ((lim N).length - 1) 0) ≤ 32 := blen_iff.2 hg
    rw [e]
    generalize hgx : (lim N).getD ((lim N).length - 1) 0 = x at *
    generalize hcs : lim N = cs at *
    refine Go.Ev.Fn.intro (fn := Tryz.f150) (body := (Tryz.f150).body.get!) (by kernel_rfl) (by kernel_rfl) (by kernel_rfl) (fun _ => rfl) (Nat.le_of_ble_eq_true (by kernel_rfl)) ?_; unfold Tryz.f150; simp only [Option.get!_some]
    repeat (first | (simp only [go_sem, Nat.reduceEqDiff, Nat.reduceAdd, Nat.reduceSub, Nat.reduceMul, Nat.reduceLeDiff, Nat.reduceLT, reduceIte, reduceCtorEq, Nat.succ_ne_zero, elemsC, Int.reduceToNat, Nat.reducePow, hgx]) | (simp (disch := (first | omega | (simp only [AL, List.length_map]; omega))) only [AR, AL, ifT, ifF, take_all, List.length_cons, List.length_nil, Int.reduceToNat, Int.reducePow, Nat.reducePow, hgx]) | (refine wk_intro (by kernel_rfl) ?_) | (refine vf_of (by first | exact t) ?_))
    refine vp_loop_inv (fun s => ∃ y : Nat, y < 4294967296 ∧ blen y ≤ 32 ∧ s.tmp 5 = .sv (.int .u32 (y : Int)) ∧ blen y ≤ blen x ∧ s.tmp 4 = .sv (.int .i64 ((32 * (cs.length - 1) + (blen x - blen y) : Nat) : Int)))
      (fun s => match s.tmp 5 with | .sv (.int _ i) => i.toNat | _ => 0) ⟨x, hg, hb, rfl, Nat.le_refl _, by rw [Nat.sub_self, Nat.add_zero]; first | rfl | (congr 2; omega)⟩ ?_
    rintro s ⟨y, g1, g2, i5, g3, i4⟩
    by_cases hy : y = 0
    · subst hy
      rw [show blen 0 = 0 from rfl, Nat.sub_zero] at i4
      repeat (first | (simp only [go_sem, Nat.reduceEqDiff, Nat.reduceAdd, Nat.reduceSub, Nat.reduceMul, Nat.reduceLeDiff, Nat.reduceLT, reduceIte, reduceCtorEq, Nat.succ_ne_zero, elemsC, Int.reduceToNat, Nat.reducePow, i5, i4]) | (simp (disch := (first | omega | (simp only [AL, List.length_map]; omega))) only [AR, AL, ifT, ifF, take_all, List.length_cons, List.length_nil, Int.reduceToNat, Int.reducePow, Nat.reducePow, i5, i4]) | (refine wk_intro (by kernel_rfl) ?_))
    · have e2 := blen_half hy
      repeat (first | (simp only [go_sem, Nat.reduceEqDiff, Nat.reduceAdd, Nat.reduceSub, Nat.reduceMul, Nat.reduceLeDiff, Nat.reduceLT, reduceIte, reduceCtorEq, Nat.succ_ne_zero, elemsC, Int.reduceToNat, Nat.reducePow, i5, i4]) | (simp (disch := (first | omega | (simp only [AL, List.length_map]; omega))) only [AR, AL, ifT, ifF, take_all, List.length_cons, List.length_nil, Int.reduceToNat, Int.reducePow, Nat.reducePow, i5, i4]) | (refine wk_intro (by kernel_rfl) ?_))
      exact ⟨⟨y / 2, by omega, by omega, by first | rfl | (congr 2; omega), by omega, by first | rfl | (congr 2; omega)⟩, by omega⟩
/-- There is a root, rounded down. -/
theorem sqrt_ex (a : Nat) : ∃ r, r * r ≤ a ∧ a < (r + 1) * (r + 1) := by
  induction a with
  | zero => exact ⟨0, by omega, by omega⟩
  | succ a ih =>
    obtain ⟨r, h1, h2⟩ := ih
    by_cases h : (r + 1) * (r + 1) ≤ a + 1
    · refine ⟨r + 1, h, ?_⟩
      have : (r + 1 + 1) * (r + 1 + 1) = (r + 1) * (r + 1) + (r + 1) + (r + 2) := by
        rw [Nat.add_mul, Nat.mul_add]; omega
      omega
    · exact ⟨r, by omega, by omega⟩
noncomputable def rtN (a : Nat) : Nat := (sqrt_ex a).choose
theorem rtN_le (a : Nat) : rtN a * rtN a ≤ a := (sqrt_ex a).choose_spec.1
theorem lt_rtN (a : Nat) : a < (rtN a + 1) * (rtN a + 1) := (sqrt_ex a).choose_spec.2
theorem rtN_eq {a r : Nat} (h1 : r * r ≤ a) (h2 : a < (r + 1) * (r + 1)) : r = rtN a := by
  have h3 := rtN_le a
  have h4 := lt_rtN a
  rcases Nat.lt_trichotomy r (rtN a) with h | h | h
  · have := Nat.mul_le_mul (show r + 1 ≤ rtN a from h) (show r + 1 ≤ rtN a from h)
    omega
  · exact h
  · have := Nat.mul_le_mul (show rtN a + 1 ≤ r from h) (show rtN a + 1 ≤ r from h)
    omega
theorem rtN_self (a : Nat) : rtN a ≤ a := by
  have := rtN_le a
  rcases Nat.eq_zero_or_pos (rtN a) with h | h
  · omega
  · have := Nat.le_mul_of_pos_left (rtN a) h
    omega
theorem ref4_root {a : Nat} (h : (lim a).length ≤ 100) : Go.Ev.Fn CX 137 [natV (lim a)] (natV (lim (rtN a))) := by
  have b := ref1_Bits (N := a) (by omega)
  have hb : a < 2 ^ blen a := blen_iff.1 (Nat.le_refl _)
  have hB : blen a ≤ 3200 := by
    obtain ⟨K, hK⟩ : ∃ K : Nat, K = 3200 := ⟨_, rfl⟩
    rw [← hK]
    refine blen_iff.2 (Nat.lt_of_lt_of_le lim_len_pow ?_)
    rw [show (4294967296 : Nat) = 2 ^ 32 from rfl, ← Nat.pow_mul]
    exact Nat.pow_le_pow_right (by omega) (by omega)
  generalize hBB : blen a = B at *
  have hK : a < 2 ^ ((B + 1) / 2) * 2 ^ ((B + 1) / 2) := by
    rw [← Nat.pow_add]
    exact Nat.lt_of_lt_of_le hb (Nat.pow_le_pow_right (by omega) (by omega))
  have tq : ((B : Int) + 1).tdiv 2 = (((B + 1) / 2 : Nat) : Int) := _root_.id rfl
  have tq2 : ((B + 1 : Nat) : Int).tdiv 2 = (((B + 1) / 2 : Nat) : Int) := _root_.id rfl
  refine Go.Ev.Fn.intro (fn := Tryz.f137) (body := (Tryz.f137).body.get!) (by kernel_rfl) (by kernel_rfl) (by kernel_rfl) (fun _ => rfl) (Nat.le_of_ble_eq_true (by kernel_rfl)) ?_; unfold Tryz.f137; simp only [Option.get!_some]
  repeat (first | (simp only [go_sem, Nat.reduceEqDiff, Nat.reduceAdd, Nat.reduceSub, Nat.reduceMul, Nat.reduceLeDiff, Nat.reduceLT, reduceIte, reduceCtorEq, Nat.succ_ne_zero, elemsC, Int.reduceToNat, Nat.reducePow, tq, tq2]) | (simp (disch := (first | omega | (simp only [AL, List.length_map]; omega))) only [AR, AL, ifT, ifF, take_all, List.length_cons, List.length_nil, Int.reduceToNat, Int.reducePow, Nat.reducePow, tq, tq2]) | (refine wk_intro (by kernel_rfl) ?_) | (refine vf_of (by first | exact b) ?_))
  refine vp_loop_inv (fun s => s.tmp 0 = .sv (natV (lim a)) ∧ ∃ k r : Nat, k ≤ 1602 ∧ s.tmp 4 = .sv (.int .i64 ((k : Int) - 1)) ∧ (s.tmp 3 = .sv (natV (lim r)) ∨ r = 0 ∧ s.tmp 3 = .nil) ∧ r * r ≤ a ∧ a < (r + 2 ^ k) * (r + 2 ^ k))
    (fun s => match s.tmp 4 with | .sv (.int _ i) => (i + 1).toNat | _ => 0) ?_ ?_
  · refine ⟨rfl, (B + 1) / 2 + 1, 0, by omega, by rw [show ((((B + 1) / 2 + 1 : Nat) : Int) - 1) = (((B + 1) / 2 : Nat) : Int) by omega]; rfl, .inr ⟨rfl, rfl⟩, by omega, ?_⟩
    rw [Nat.zero_add, Nat.pow_succ]
    have := Nat.mul_le_mul (Nat.le_mul_of_pos_right (2 ^ ((B + 1) / 2)) (show 0 < 2 by omega)) (Nat.le_mul_of_pos_right (2 ^ ((B + 1) / 2)) (show 0 < 2 by omega))
    omega
  rintro s ⟨i0, k, r, hk, i4, i3, g1, g2⟩
  rcases Nat.eq_zero_or_pos k with h0 | h0
  · subst h0
    obtain rfl := rtN_eq g1 g2
    rcases i3 with i3 | ⟨e, i3⟩
    · repeat (first | (simp only [go_sem, Nat.reduceEqDiff, Nat.reduceAdd, Nat.reduceSub, Nat.reduceMul, Nat.reduceLeDiff, Nat.reduceLT, reduceIte, reduceCtorEq, Nat.succ_ne_zero, elemsC, Int.reduceToNat, Nat.reducePow, i0, i4, i3]) | (simp (disch := (first | omega | (simp only [AL, List.length_map]; omega))) only [AR, AL, ifT, ifF, take_all, List.length_cons, List.length_nil, Int.reduceToNat, Int.reducePow, Nat.reducePow, i0, i4, i3]) | (refine wk_intro (by kernel_rfl) ?_))
    · rw [e, lim_zero]
      repeat (first | (simp only [go_sem, Nat.reduceEqDiff, Nat.reduceAdd, Nat.reduceSub, Nat.reduceMul, Nat.reduceLeDiff, Nat.reduceLT, reduceIte, reduceCtorEq, Nat.succ_ne_zero, elemsC, Int.reduceToNat, Nat.reducePow, i0, i4, i3]) | (simp (disch := (first | omega | (simp only [AL, List.length_map]; omega))) only [AR, AL, ifT, ifF, take_all, List.length_cons, List.length_nil, Int.reduceToNat, Int.reducePow, Nat.reducePow, i0, i4, i3]) | (refine wk_intro (by kernel_rfl) ?_))
      rfl
  · obtain ⟨j, rfl⟩ : ∃ j, k = j + 1 := ⟨k - 1, by omega⟩
    have p := ref4_pow2 (n := j) (by omega)
    have l := lim_len_shl (a := 1) (n := j)
    have l1 := lim_len1
    rw [Nat.one_mul] at l
    have lr : (lim r).length ≤ 100 := Nat.le_trans (lim_len_mono (by rcases Nat.eq_zero_or_pos r with e | e; (omega); (have := Nat.le_mul_of_pos_left r e; omega))) h
    have s1 := ref1_AddL (N := r) (D := 2 ^ j) (by omega) (by omega)
    have l2 := lim_len_add (a := r) (b := 2 ^ j) (L := 200) (by omega) (by omega)
    have m := ref1_MulL (N := r + 2 ^ j) (D := r + 2 ^ j) (by omega) (by omega)
    have l3 := lim_len_mul (a := r + 2 ^ j) (b := r + 2 ^ j)
    have c := ref1_CmpL (N := (r + 2 ^ j) * (r + 2 ^ j)) (D := a) (by omega) (by omega)
    have e1 : decide (cmpN ((r + 2 ^ j) * (r + 2 ^ j)) a ≤ 0) = decide ((r + 2 ^ j) * (r + 2 ^ j) ≤ a) := decide_eq_decide.2 (by unfold cmpN; split <;> (try split) <;> omega)
    have e4 : ((j + 1 : Nat) : Int) - 1 = (j : Int) := by omega
    rw [e4] at i4
    generalize hz : cmpN ((r + 2 ^ j) * (r + 2 ^ j)) a = z at *
    by_cases hle : (r + 2 ^ j) * (r + 2 ^ j) ≤ a
    · rw [decide_eq_true hle] at e1
      rw [show r + 2 ^ (j + 1) = r + 2 ^ j + 2 ^ j by rw [Nat.pow_succ]; omega] at g2
      generalize hu : (r + 2 ^ j) * (r + 2 ^ j) = u at *
      generalize hv : r + 2 ^ j = v at *
      generalize hw : (v + 2 ^ j) * (v + 2 ^ j) = w at *
      rcases i3 with i3 | ⟨e, i3⟩
      · repeat (first | (simp only [go_sem, Nat.reduceEqDiff, Nat.reduceAdd, Nat.reduceSub, Nat.reduceMul, Nat.reduceLeDiff, Nat.reduceLT, reduceIte, reduceCtorEq, Nat.succ_ne_zero, elemsC, Int.reduceToNat, Nat.reducePow, i0, i4, i3]) | (simp (disch := (first | omega | (simp only [AL, List.length_map]; omega))) only [AR, AL, ifT, ifF, take_all, List.length_cons, List.length_nil, Int.reduceToNat, Int.reducePow, Nat.reducePow, i0, i4, i3]) | (refine wk_intro (by kernel_rfl) ?_))
        repeat (first | (simp only [go_sem, Nat.reduceEqDiff, Nat.reduceAdd, Nat.reduceSub, Nat.reduceMul, Nat.reduceLeDiff, Nat.reduceLT, reduceIte, reduceCtorEq, Nat.succ_ne_zero, elemsC, Int.reduceToNat, Nat.reducePow, i0, i4, i3, e1]) | (simp (disch := (first | omega | (simp only [AL, List.length_map]; omega))) only [AR, AL, ifT, ifF, take_all, List.length_cons, List.length_nil, Int.reduceToNat, Int.reducePow, Nat.reducePow, i0, i4, i3, e1]) | (refine wk_intro (by kernel_rfl) ?_) | (refine vf_of (by first | exact p | exact s1 | exact m | exact c) ?_))
        exact ⟨⟨j, v, by omega, by first | rfl | (congr 2; omega), .inl rfl, by rw [hu]; exact hle, by rw [hw]; exact g2⟩, by omega⟩
      · subst e
        rw [lim_zero] at s1
        repeat (first | (simp only [go_sem, Nat.reduceEqDiff, Nat.reduceAdd, Nat.reduceSub, Nat.reduceMul, Nat.reduceLeDiff, Nat.reduceLT, reduceIte, reduceCtorEq, Nat.succ_ne_zero, elemsC, Int.reduceToNat, Nat.reducePow, i0, i4, i3, e1]) | (simp (disch := (first | omega | (simp only [AL, List.length_map]; omega))) only [AR, AL, ifT, ifF, take_all, List.length_cons, List.length_nil, Int.reduceToNat, Int.reducePow, Nat.reducePow, i0, i4, i3, e1]) | (refine wk_intro (by kernel_rfl) ?_) | (refine vf_of (by first | exact p | exact s1 | exact m | exact c) ?_))
        exact ⟨⟨j, v, by omega, by first | rfl | (congr 2; omega), .inl rfl, by rw [hu]; exact hle, by rw [hw]; exact g2⟩, by omega⟩
    · rw [decide_eq_false hle] at e1
      generalize hu : (r + 2 ^ j) * (r + 2 ^ j) = u at *
      generalize hv : r + 2 ^ j = v at *
      rcases i3 with i3 | ⟨e, i3⟩
      · repeat (first | (simp only [go_sem, Nat.reduceEqDiff, Nat.reduceAdd, Nat.reduceSub, Nat.reduceMul, Nat.reduceLeDiff, Nat.reduceLT, reduceIte, reduceCtorEq, Nat.succ_ne_zero, elemsC, Int.reduceToNat, Nat.reducePow, i0, i4, i3]) | (simp (disch := (first | omega | (simp only [AL, List.length_map]; omega))) only [AR, AL, ifT, ifF, take_all, List.length_cons, List.length_nil, Int.reduceToNat, Int.reducePow, Nat.reducePow, i0, i4, i3]) | (refine wk_intro (by kernel_rfl) ?_))
        repeat (first | (simp only [go_sem, Nat.reduceEqDiff, Nat.reduceAdd, Nat.reduceSub, Nat.reduceMul, Nat.reduceLeDiff, Nat.reduceLT, reduceIte, reduceCtorEq, Nat.succ_ne_zero, elemsC, Int.reduceToNat, Nat.reducePow, i0, i4, i3, e1]) | (simp (disch := (first | omega | (simp only [AL, List.length_map]; omega))) only [AR, AL, ifT, ifF, take_all, List.length_cons, List.length_nil, Int.reduceToNat, Int.reducePow, Nat.reducePow, i0, i4, i3, e1]) | (refine wk_intro (by kernel_rfl) ?_) | (refine vf_of (by first | exact p | exact s1 | exact m | exact c) ?_))
        exact ⟨⟨j, r, by omega, by first | rfl | (congr 2; omega), .inl (by first | rfl | exact i3), g1, by rw [hv, hu]; omega⟩, by omega⟩
      · subst e
        rw [lim_zero] at s1
        repeat (first | (simp only [go_sem, Nat.reduceEqDiff, Nat.reduceAdd, Nat.reduceSub, Nat.reduceMul, Nat.reduceLeDiff, Nat.reduceLT, reduceIte, reduceCtorEq, Nat.succ_ne_zero, elemsC, Int.reduceToNat, Nat.reducePow, i0, i4, i3, e1]) | (simp (disch := (first | omega | (simp only [AL, List.length_map]; omega))) only [AR, AL, ifT, ifF, take_all, List.length_cons, List.length_nil, Int.reduceToNat, Int.reducePow, Nat.reducePow, i0, i4, i3, e1]) | (refine wk_intro (by kernel_rfl) ?_) | (refine vf_of (by first | exact p | exact s1 | exact m | exact c) ?_))
        exact ⟨⟨j, 0, by omega, by first | rfl | (congr 2; omega), .inr (by first | rfl | exact ⟨rfl, rfl⟩ | exact ⟨rfl, i3⟩), g1, by rw [hv, hu]; omega⟩, by omega⟩
theorem ref4_Sqrt {a b w : Nat} (ha : (lim a).length ≤ 60) (hb : (lim b).length ≤ 60) (hw : w ≤ 1000) : Go.Ev.Fn CX 109 [ivV (a : Int) (b : Int), .int .i64 (w : Int)] (ivV (rtN (a * 2 ^ w) : Int) ((rtN (b * 2 ^ w) + 1 : Nat) : Int)) := by
  have s1 := ref1_shl (N := a) (m := w) (by omega) (by omega)
  have s2 := ref1_shl (N := b) (m := w) (by omega) (by omega)
  have l1 := lim_len_shl (a := a) (n := w)
  have l2 := lim_len_shl (a := b) (n := w)
  have r1 := ref4_root (a := a * 2 ^ w) (by omega)
  have r2 := ref4_root (a := b * 2 ^ w) (by omega)
  have o := ref4_Whole 1 (by omega)
  have l3 := lim_len_mono (rtN_self (b * 2 ^ w))
  have l4 : (lim (rtN (b * 2 ^ w) : Int).natAbs).length ≤ 1000 := by rw [Int.natAbs_natCast]; omega
  have p := ref4_Plus (rtN (b * 2 ^ w) : Int) 1 (by omega) (Nat.le_trans lim_len1 (by omega))
  have q : ∀ n : Nat, intV (n : Int) = .agg [.bool false, natV (lim n)] := fun n => iv_eq (Int.natAbs_natCast n) (decide_eq_false (by omega))
  rw [show ((rtN (b * 2 ^ w) : Int) + 1) = ((rtN (b * 2 ^ w) + 1 : Nat) : Int) from rfl, q, q] at p
  have qq : ∀ m n : Nat, ivV (m : Int) (n : Int) = .agg [.bool false, natV (lim m), .bool false, natV (lim n)] := fun m n => by
    show SV.agg [.bool (decide ((m : Int) < 0)), natV (lim (m : Int).natAbs), .bool (decide ((n : Int) < 0)), natV (lim (n : Int).natAbs)] = _
    rw [Int.natAbs_natCast, Int.natAbs_natCast, decide_eq_false (by omega), decide_eq_false (by omega)]
  rw [qq, qq]
  generalize rtN (b * 2 ^ w) + 1 = y at *
  generalize rtN (b * 2 ^ w) = z at *
  generalize rtN (a * 2 ^ w) = x at *
  generalize a * 2 ^ w = u at *
  generalize b * 2 ^ w = v at *
  refine Go.Ev.Fn.intro (fn := Tryz.f109) (body := (Tryz.f109).body.get!) (by kernel_rfl) (by kernel_rfl) (by kernel_rfl) (fun _ => rfl) (Nat.le_of_ble_eq_true (by kernel_rfl)) ?_; unfold Tryz.f109; simp only [Option.get!_some]
  repeat (first | (simp only [go_sem, Nat.reduceEqDiff, Nat.reduceAdd, Nat.reduceSub, Nat.reduceMul, Nat.reduceLeDiff, Nat.reduceLT, reduceIte, reduceCtorEq, Nat.succ_ne_zero, elemsC, Int.reduceToNat, Nat.reducePow]) | (simp (disch := (first | omega | (simp only [AL, List.length_map]; omega))) only [AR, AL, ifT, ifF, take_all, List.length_cons, List.length_nil, Int.reduceToNat, Int.reducePow, Nat.reducePow]) | (refine wk_intro (by kernel_rfl) ?_) | (refine vp_draw (id := 1) (l := [7, 9, 14, 16]) (by kernel_rfl) ?_) | (refine vf_of (by first | exact s1 | exact r1 | exact s2 | exact r2 | exact o | exact p) ?_))
end Go.Proofs.YtigiblhmhmgagaaGreat

/- vernierref4.Prod, in the evaluator. -/
namespace Go.Proofs.YtigiblhmhmgagaaGreat
set_option linter.unusedSimpArgs false
set_option linter.unusedVariables false
set_option maxRecDepth 8000
open Go.Ev
def mnZ (m x : Int) : Int := if x < m then x else m
def mxZ (m x : Int) : Int := if m < x then x else m
def loP (p1 p2 p3 p4 : Int) : Nat → Int
  | 0 => p1
  | 1 => p1
  | 2 => mnZ p1 p2
  | 3 => mnZ (mnZ p1 p2) p3
  | _ => mnZ (mnZ (mnZ p1 p2) p3) p4
def hiP (p1 p2 p3 p4 : Int) : Nat → Int
  | 0 => p1
  | 1 => p1
  | 2 => mxZ p1 p2
  | 3 => mxZ (mxZ p1 p2) p3
  | _ => mxZ (mxZ (mxZ p1 p2) p3) p4
/-- The least and the greatest of four products. -/
def loQ (a b c d : Int) : Int := loP (a * c) (a * d) (b * c) (b * d) 4
def hiQ (a b c d : Int) : Int := hiP (a * c) (a * d) (b * c) (b * d) 4
theorem cmpZ_lt {a b : Int} : decide (cmpZ a b < 0) = decide (a < b) := decide_eq_decide.2 (by unfold cmpZ; split <;> (try split) <;> omega)
theorem cmpZ_gt {a b : Int} : decide (cmpZ a b > 0) = decide (b < a) := decide_eq_decide.2 (by unfold cmpZ; split <;> (try split) <;> omega)
theorem cmpZ_le {a b : Int} : decide (cmpZ a b ≤ 0) = decide (a ≤ b) := decide_eq_decide.2 (by unfold cmpZ; split <;> (try split) <;> omega)
theorem mnZ_is (m x : Int) : mnZ m x = m ∨ mnZ m x = x := by unfold mnZ; split <;> simp
theorem loP_is (p1 p2 p3 p4 : Int) (i : Nat) : loP p1 p2 p3 p4 i = p1 ∨ loP p1 p2 p3 p4 i = p2 ∨ loP p1 p2 p3 p4 i = p3 ∨ loP p1 p2 p3 p4 i = p4 := by
  have h2 := mnZ_is p1 p2
  have h3 := mnZ_is (mnZ p1 p2) p3
  have h4 := mnZ_is (mnZ (mnZ p1 p2) p3) p4
  match i with
  | 0 => exact .inl rfl
  | 1 => exact .inl rfl
  | 2 => show mnZ p1 p2 = _ ∨ mnZ p1 p2 = _ ∨ mnZ p1 p2 = _ ∨ mnZ p1 p2 = _; omega
  | 3 => simp only [loP]; omega
  | _ + 4 => simp only [loP]; omega
theorem mxZ_is (m x : Int) : mxZ m x = m ∨ mxZ m x = x := by unfold mxZ; split <;> simp
theorem hiP_is (p1 p2 p3 p4 : Int) (i : Nat) : hiP p1 p2 p3 p4 i = p1 ∨ hiP p1 p2 p3 p4 i = p2 ∨ hiP p1 p2 p3 p4 i = p3 ∨ hiP p1 p2 p3 p4 i = p4 := by
  have h2 := mxZ_is p1 p2
  have h3 := mxZ_is (mxZ p1 p2) p3
  have h4 := mxZ_is (mxZ (mxZ p1 p2) p3) p4
  match i with
  | 0 => exact .inl rfl
  | 1 => exact .inl rfl
  | 2 => show mxZ p1 p2 = _ ∨ mxZ p1 p2 = _ ∨ mxZ p1 p2 = _ ∨ mxZ p1 p2 = _; omega
  | 3 => simp only [hiP]; omega
  | _ + 4 => simp only [hiP]; omega
set_option maxHeartbeats 1000000 in
theorem ref4_Prod {a b c d : Int} {w : Nat} (ha : (lim a.natAbs).length ≤ 10000) (hb : (lim b.natAbs).length ≤ 10000) (hc : (lim c.natAbs).length ≤ 10000) (hd : (lim d.natAbs).length ≤ 10000) (hw : w ≤ 4096) (h0 : 0 < w) :
    Go.Ev.Fn CX 68 [ivV a b, ivV c d, .int .i64 (w : Int)] (ivV (loQ a b c d / ((2 ^ w : Nat) : Int)) (cdZ (hiQ a b c d) (2 ^ w))) := by
  have m1 := ref4_Times a c (by omega) (by omega)
  have m2 := ref4_Times a d (by omega) (by omega)
  have m3 := ref4_Times b c (by omega) (by omega)
  have m4 := ref4_Times b d (by omega) (by omega)
  have l1 : (lim (a * c).natAbs).length ≤ 20000 := by rw [Int.natAbs_mul]; have := lim_len_mul (a := a.natAbs) (b := c.natAbs); omega
  have l2 : (lim (a * d).natAbs).length ≤ 20000 := by rw [Int.natAbs_mul]; have := lim_len_mul (a := a.natAbs) (b := d.natAbs); omega
  have l3 : (lim (b * c).natAbs).length ≤ 20000 := by rw [Int.natAbs_mul]; have := lim_len_mul (a := b.natAbs) (b := c.natAbs); omega
  have l4 : (lim (b * d).natAbs).length ≤ 20000 := by rw [Int.natAbs_mul]; have := lim_len_mul (a := b.natAbs) (b := d.natAbs); omega
  unfold loQ hiQ
  generalize a * c = p1 at *
  generalize a * d = p2 at *
  generalize b * c = p3 at *
  generalize b * d = p4 at *
  have lL : ∀ i, (lim (loP p1 p2 p3 p4 i).natAbs).length ≤ 20000 := by
    intro i
    rcases loP_is p1 p2 p3 p4 i with h | h | h | h <;> rw [h] <;> assumption
  have lH : ∀ i, (lim (hiP p1 p2 p3 p4 i).natAbs).length ≤ 20000 := by
    intro i
    rcases hiP_is p1 p2 p3 p4 i with h | h | h | h <;> rw [h] <;> assumption
  have s1 := ref4_Less (loP p1 p2 p3 p4 4) w (by have := lL 4; omega) hw h0
  have s2 := ref4_More (hiP p1 p2 p3 p4 4) w (by have := lH 4; omega) hw h0
  have L1 : loP p1 p2 p3 p4 1 = p1 := rfl
  have H1 : hiP p1 p2 p3 p4 1 = p1 := rfl
  have L2 : loP p1 p2 p3 p4 2 = mnZ (loP p1 p2 p3 p4 1) p2 := rfl
  have H2 : hiP p1 p2 p3 p4 2 = mxZ (hiP p1 p2 p3 p4 1) p2 := rfl
  have L3 : loP p1 p2 p3 p4 3 = mnZ (loP p1 p2 p3 p4 2) p3 := rfl
  have H3 : hiP p1 p2 p3 p4 3 = mxZ (hiP p1 p2 p3 p4 2) p3 := rfl
  have L4 : loP p1 p2 p3 p4 4 = mnZ (loP p1 p2 p3 p4 3) p4 := rfl
  have H4 : hiP p1 p2 p3 p4 4 = mxZ (hiP p1 p2 p3 p4 3) p4 := rfl
  generalize loP p1 p2 p3 p4 = lo at *
  generalize hiP p1 p2 p3 p4 = hi at *
  generalize hX : lo 4 / ((2 ^ w : Nat) : Int) = X at *
  generalize hY : cdZ (hi 4) (2 ^ w) = Y at *
  clear hX hY ha hb hc hd
  refine Go.Ev.Fn.intro (fn := Tryz.f68) (body := (Tryz.f68).body.get!) (by kernel_rfl) (by kernel_rfl) (by kernel_rfl) (fun _ => rfl) (Nat.le_of_ble_eq_true (by kernel_rfl)) ?_; unfold Tryz.f68; simp only [Option.get!_some]
  repeat (first | (simp only [go_sem, Nat.reduceEqDiff, Nat.reduceAdd, Nat.reduceSub, Nat.reduceMul, Nat.reduceLeDiff, Nat.reduceLT, reduceIte, reduceCtorEq, Nat.succ_ne_zero, elemsC, Int.reduceToNat, Nat.reducePow]) | (simp (disch := (first | omega | (simp only [AL, List.length_map]; omega))) only [AR, AL, ifT, ifF, take_all, List.length_cons, List.length_nil, Int.reduceToNat, Int.reducePow, Nat.reducePow]) | (refine wk_intro (by kernel_rfl) ?_) | (refine vp_draw (id := 1) (l := []) (by kernel_rfl) ?_) | (refine vp_draw (id := 2) (l := []) (by kernel_rfl) ?_) | (refine vp_draw (id := 6) (l := []) (by kernel_rfl) ?_) | (refine vp_draw (id := 8) (l := []) (by kernel_rfl) ?_) | (refine vp_draw (id := 10) (l := []) (by kernel_rfl) ?_) | (refine vf_of (by first | exact m1 | exact m2 | exact m3 | exact m4) ?_))
  refine vp_loop_inv (fun s => s.tmp 2 = .sv (.int .i64 (w : Int)) ∧ s.tmp 6 = .ptr 6 0 0 ∧ s.obj 6 0 = some [.bool false, .sl 0 [], .bool false, .sl 0 []] ∧ s.tmp 7 = .sv (.sl 4 [.bool (decide (p1 < 0)), natV (lim p1.natAbs), .bool (decide (p2 < 0)), natV (lim p2.natAbs), .bool (decide (p3 < 0)), natV (lim p3.natAbs), .bool (decide (p4 < 0)), natV (lim p4.natAbs)]) ∧ s.tmp 8 = .ptr 8 0 0 ∧ s.tmp 9 = .ptr 9 0 0 ∧
      ∃ i : Nat, s.tmp 10 = .sv (.int .i64 (i : Int)) ∧ 1 ≤ i ∧ i ≤ 4 ∧ s.obj 8 0 = some [.bool (decide (lo i < 0)), natV (lim (lo i).natAbs)] ∧ s.obj 9 0 = some [.bool (decide (hi i < 0)), natV (lim (hi i).natAbs)])
    (fun s => match s.tmp 10 with | .sv (.int _ i) => 4 - i.toNat | _ => 0) ⟨rfl, rfl, rfl, rfl, rfl, rfl, 1, rfl, by omega, by omega, by first | (rw [L1]; done) | (rw [L1]; rfl) | (rw [L1]; exact o8) | (rw [L1]; exact o9), by first | (rw [H1]; done) | (rw [H1]; rfl) | (rw [H1]; exact o8) | (rw [H1]; exact o9)⟩ ?_
  rintro s ⟨i2, i6, o6, i7, i8, i9, i, i10, g1, g2, o8, o9⟩
  obtain rfl | rfl | rfl | rfl : i = 4 ∨ i = 1 ∨ i = 2 ∨ i = 3 := by omega
  · repeat (first | (simp only [go_sem, Nat.reduceEqDiff, Nat.reduceAdd, Nat.reduceSub, Nat.reduceMul, Nat.reduceLeDiff, Nat.reduceLT, reduceIte, reduceCtorEq, Nat.succ_ne_zero, elemsC, Int.reduceToNat, Nat.reducePow, i2, i6, o6, i7, i8, i9, i10, o8, o9]) | (simp (disch := (first | omega | (simp only [AL, List.length_map]; omega))) only [AR, AL, ifT, ifF, take_all, List.length_cons, List.length_nil, Int.reduceToNat, Int.reducePow, Nat.reducePow, i2, i6, o6, i7, i8, i9, i10, o8, o9]) | (refine wk_intro (by kernel_rfl) ?_) | (refine vp_draw (id := 1) (l := []) (by kernel_rfl) ?_) | (refine vp_draw (id := 2) (l := []) (by kernel_rfl) ?_) | (refine vp_draw (id := 6) (l := []) (by kernel_rfl) ?_) | (refine vp_draw (id := 8) (l := []) (by kernel_rfl) ?_) | (refine vp_draw (id := 10) (l := []) (by kernel_rfl) ?_))
    repeat (first | (simp only [go_sem, Nat.reduceEqDiff, Nat.reduceAdd, Nat.reduceSub, Nat.reduceMul, Nat.reduceLeDiff, Nat.reduceLT, reduceIte, reduceCtorEq, Nat.succ_ne_zero, elemsC, Int.reduceToNat, Nat.reducePow, i2, i6, o6, i7, i8, i9, i10, o8, o9]) | (simp (disch := (first | omega | (simp only [AL, List.length_map]; omega))) only [AR, AL, ifT, ifF, take_all, List.length_cons, List.length_nil, Int.reduceToNat, Int.reducePow, Nat.reducePow, i2, i6, o6, i7, i8, i9, i10, o8, o9]) | (refine wk_intro (by kernel_rfl) ?_) | (refine vp_draw (id := 1) (l := []) (by kernel_rfl) ?_) | (refine vp_draw (id := 2) (l := []) (by kernel_rfl) ?_) | (refine vp_draw (id := 6) (l := []) (by kernel_rfl) ?_) | (refine vp_draw (id := 8) (l := []) (by kernel_rfl) ?_) | (refine vp_draw (id := 10) (l := []) (by kernel_rfl) ?_) | (refine vf_of (by first | exact s1 | exact s2) ?_))
  · have c1 := ref4_Cmp p2 (lo 1) (by omega) (by have := lL 1; omega)
    have c2 := ref4_Cmp p2 (hi 1) (by omega) (by have := lH 1; omega)
    have c3 := ref4_Cmp p2 (hi 1) (by omega) (by have := lH 1; omega)
    have e1 := cmpZ_lt (a := p2) (b := lo 1)
    have e2 := cmpZ_gt (a := p2) (b := hi 1)
    generalize cmpZ p2 (lo 1) = z1 at *
    generalize cmpZ p2 (hi 1) = z2 at *
    by_cases k1 : p2 < lo 1
    · rw [decide_eq_true k1] at e1
      rw [mnZ, if_pos k1] at L2
      by_cases k2 : hi 1 < p2
      · rw [decide_eq_true k2] at e2
        rw [mxZ, if_pos k2] at H2
        clear k1 k2
        repeat (first | (simp only [go_sem, Nat.reduceEqDiff, Nat.reduceAdd, Nat.reduceSub, Nat.reduceMul, Nat.reduceLeDiff, Nat.reduceLT, reduceIte, reduceCtorEq, Nat.succ_ne_zero, elemsC, Int.reduceToNat, Nat.reducePow, i2, i6, o6, i7, i8, i9, i10, o8, o9, e1, e2]) | (simp (disch := (first | omega | (simp only [AL, List.length_map]; omega))) only [AR, AL, ifT, ifF, take_all, List.length_cons, List.length_nil, Int.reduceToNat, Int.reducePow, Nat.reducePow, i2, i6, o6, i7, i8, i9, i10, o8, o9, e1, e2]) | (refine wk_intro (by kernel_rfl) ?_) | (refine vp_draw (id := 1) (l := []) (by kernel_rfl) ?_) | (refine vp_draw (id := 2) (l := []) (by kernel_rfl) ?_) | (refine vp_draw (id := 6) (l := []) (by kernel_rfl) ?_) | (refine vp_draw (id := 8) (l := []) (by kernel_rfl) ?_) | (refine vp_draw (id := 10) (l := []) (by kernel_rfl) ?_) | (refine vf_of (by first | exact c1 | exact c2) ?_))
        exact ⟨2, rfl, by omega, by omega, by first | (rw [L2]; done) | (rw [L2]; rfl) | (rw [L2]; exact o8) | (rw [L2]; exact o9), by first | (rw [H2]; done) | (rw [H2]; rfl) | (rw [H2]; exact o8) | (rw [H2]; exact o9)⟩
      · rw [decide_eq_false k2] at e2
        rw [mxZ, if_neg k2] at H2
        clear k1 k2
        repeat (first | (simp only [go_sem, Nat.reduceEqDiff, Nat.reduceAdd, Nat.reduceSub, Nat.reduceMul, Nat.reduceLeDiff, Nat.reduceLT, reduceIte, reduceCtorEq, Nat.succ_ne_zero, elemsC, Int.reduceToNat, Nat.reducePow, i2, i6, o6, i7, i8, i9, i10, o8, o9, e1, e2]) | (simp (disch := (first | omega | (simp only [AL, List.length_map]; omega))) only [AR, AL, ifT, ifF, take_all, List.length_cons, List.length_nil, Int.reduceToNat, Int.reducePow, Nat.reducePow, i2, i6, o6, i7, i8, i9, i10, o8, o9, e1, e2]) | (refine wk_intro (by kernel_rfl) ?_) | (refine vp_draw (id := 1) (l := []) (by kernel_rfl) ?_) | (refine vp_draw (id := 2) (l := []) (by kernel_rfl) ?_) | (refine vp_draw (id := 6) (l := []) (by kernel_rfl) ?_) | (refine vp_draw (id := 8) (l := []) (by kernel_rfl) ?_) | (refine vp_draw (id := 10) (l := []) (by kernel_rfl) ?_) | (refine vf_of (by first | exact c1 | exact c2) ?_))
        exact ⟨2, rfl, by omega, by omega, by first | (rw [L2]; done) | (rw [L2]; rfl) | (rw [L2]; exact o8) | (rw [L2]; exact o9), by first | (rw [H2]; done) | (rw [H2]; rfl) | (rw [H2]; exact o8) | (rw [H2]; exact o9)⟩
    · rw [decide_eq_false k1] at e1
      rw [mnZ, if_neg k1] at L2
      by_cases k2 : hi 1 < p2
      · rw [decide_eq_true k2] at e2
        rw [mxZ, if_pos k2] at H2
        clear k1 k2
        repeat (first | (simp only [go_sem, Nat.reduceEqDiff, Nat.reduceAdd, Nat.reduceSub, Nat.reduceMul, Nat.reduceLeDiff, Nat.reduceLT, reduceIte, reduceCtorEq, Nat.succ_ne_zero, elemsC, Int.reduceToNat, Nat.reducePow, i2, i6, o6, i7, i8, i9, i10, o8, o9, e1, e2]) | (simp (disch := (first | omega | (simp only [AL, List.length_map]; omega))) only [AR, AL, ifT, ifF, take_all, List.length_cons, List.length_nil, Int.reduceToNat, Int.reducePow, Nat.reducePow, i2, i6, o6, i7, i8, i9, i10, o8, o9, e1, e2]) | (refine wk_intro (by kernel_rfl) ?_) | (refine vp_draw (id := 1) (l := []) (by kernel_rfl) ?_) | (refine vp_draw (id := 2) (l := []) (by kernel_rfl) ?_) | (refine vp_draw (id := 6) (l := []) (by kernel_rfl) ?_) | (refine vp_draw (id := 8) (l := []) (by kernel_rfl) ?_) | (refine vp_draw (id := 10) (l := []) (by kernel_rfl) ?_) | (refine vf_of (by first | exact c1 | exact c2) ?_))
        exact ⟨2, rfl, by omega, by omega, by first | (rw [L2]; done) | (rw [L2]; rfl) | (rw [L2]; exact o8) | (rw [L2]; exact o9), by first | (rw [H2]; done) | (rw [H2]; rfl) | (rw [H2]; exact o8) | (rw [H2]; exact o9)⟩
      · rw [decide_eq_false k2] at e2
        rw [mxZ, if_neg k2] at H2
        clear k1 k2
        repeat (first | (simp only [go_sem, Nat.reduceEqDiff, Nat.reduceAdd, Nat.reduceSub, Nat.reduceMul, Nat.reduceLeDiff, Nat.reduceLT, reduceIte, reduceCtorEq, Nat.succ_ne_zero, elemsC, Int.reduceToNat, Nat.reducePow, i2, i6, o6, i7, i8, i9, i10, o8, o9, e1, e2]) | (simp (disch := (first | omega | (simp only [AL, List.length_map]; omega))) only [AR, AL, ifT, ifF, take_all, List.length_cons, List.length_nil, Int.reduceToNat, Int.reducePow, Nat.reducePow, i2, i6, o6, i7, i8, i9, i10, o8, o9, e1, e2]) | (refine wk_intro (by kernel_rfl) ?_) | (refine vp_draw (id := 1) (l := []) (by kernel_rfl) ?_) | (refine vp_draw (id := 2) (l := []) (by kernel_rfl) ?_) | (refine vp_draw (id := 6) (l := []) (by kernel_rfl) ?_) | (refine vp_draw (id := 8) (l := []) (by kernel_rfl) ?_) | (refine vp_draw (id := 10) (l := []) (by kernel_rfl) ?_) | (refine vf_of (by first | exact c1 | exact c2) ?_))
        exact ⟨2, rfl, by omega, by omega, by first | (rw [L2]; done) | (rw [L2]; rfl) | (rw [L2]; exact o8) | (rw [L2]; exact o9), by first | (rw [H2]; done) | (rw [H2]; rfl) | (rw [H2]; exact o8) | (rw [H2]; exact o9)⟩
  · have c1 := ref4_Cmp p3 (lo 2) (by omega) (by have := lL 2; omega)
    have c2 := ref4_Cmp p3 (hi 2) (by omega) (by have := lH 2; omega)
    have c3 := ref4_Cmp p3 (hi 2) (by omega) (by have := lH 2; omega)
    have e1 := cmpZ_lt (a := p3) (b := lo 2)
    have e2 := cmpZ_gt (a := p3) (b := hi 2)
    generalize cmpZ p3 (lo 2) = z1 at *
    generalize cmpZ p3 (hi 2) = z2 at *
    by_cases k1 : p3 < lo 2
    · rw [decide_eq_true k1] at e1
      rw [mnZ, if_pos k1] at L3
      by_cases k2 : hi 2 < p3
      · rw [decide_eq_true k2] at e2
        rw [mxZ, if_pos k2] at H3
        clear k1 k2
        repeat (first | (simp only [go_sem, Nat.reduceEqDiff, Nat.reduceAdd, Nat.reduceSub, Nat.reduceMul, Nat.reduceLeDiff, Nat.reduceLT, reduceIte, reduceCtorEq, Nat.succ_ne_zero, elemsC, Int.reduceToNat, Nat.reducePow, i2, i6, o6, i7, i8, i9, i10, o8, o9, e1, e2]) | (simp (disch := (first | omega | (simp only [AL, List.length_map]; omega))) only [AR, AL, ifT, ifF, take_all, List.length_cons, List.length_nil, Int.reduceToNat, Int.reducePow, Nat.reducePow, i2, i6, o6, i7, i8, i9, i10, o8, o9, e1, e2]) | (refine wk_intro (by kernel_rfl) ?_) | (refine vp_draw (id := 1) (l := []) (by kernel_rfl) ?_) | (refine vp_draw (id := 2) (l := []) (by kernel_rfl) ?_) | (refine vp_draw (id := 6) (l := []) (by kernel_rfl) ?_) | (refine vp_draw (id := 8) (l := []) (by kernel_rfl) ?_) | (refine vp_draw (id := 10) (l := []) (by kernel_rfl) ?_) | (refine vf_of (by first | exact c1 | exact c2) ?_))
        exact ⟨3, rfl, by omega, by omega, by first | (rw [L3]; done) | (rw [L3]; rfl) | (rw [L3]; exact o8) | (rw [L3]; exact o9), by first | (rw [H3]; done) | (rw [H3]; rfl) | (rw [H3]; exact o8) | (rw [H3]; exact o9)⟩
      · rw [decide_eq_false k2] at e2
        rw [mxZ, if_neg k2] at H3
        clear k1 k2
        repeat (first | (simp only [go_sem, Nat.reduceEqDiff, Nat.reduceAdd, Nat.reduceSub, Nat.reduceMul, Nat.reduceLeDiff, Nat.reduceLT, reduceIte, reduceCtorEq, Nat.succ_ne_zero, elemsC, Int.reduceToNat, Nat.reducePow, i2, i6, o6, i7, i8, i9, i10, o8, o9, e1, e2]) | (simp (disch := (first | omega | (simp only [AL, List.length_map]; omega))) only [AR, AL, ifT, ifF, take_all, List.length_cons, List.length_nil, Int.reduceToNat, Int.reducePow, Nat.reducePow, i2, i6, o6, i7, i8, i9, i10, o8, o9, e1, e2]) | (refine wk_intro (by kernel_rfl) ?_) | (refine vp_draw (id := 1) (l := []) (by kernel_rfl) ?_) | (refine vp_draw (id := 2) (l := []) (by kernel_rfl) ?_) | (refine vp_draw (id := 6) (l := []) (by kernel_rfl) ?_) | (refine vp_draw (id := 8) (l := []) (by kernel_rfl) ?_) | (refine vp_draw (id := 10) (l := []) (by kernel_rfl) ?_) | (refine vf_of (by first | exact c1 | exact c2) ?_))
        exact ⟨3, rfl, by omega, by omega, by first | (rw [L3]; done) | (rw [L3]; rfl) | (rw [L3]; exact o8) | (rw [L3]; exact o9), by first | (rw [H3]; done) | (rw [H3]; rfl) | (rw [H3]; exact o8) | (rw [H3]; exact o9)⟩
    · rw [decide_eq_false k1] at e1
      rw [mnZ, if_neg k1] at L3
      by_cases k2 : hi 2 < p3
      · rw [decide_eq_true k2] at e2
        rw [mxZ, if_pos k2] at H3
        clear k1 k2
        repeat (first | (simp only [go_sem, Nat.reduceEqDiff, Nat.reduceAdd, Nat.reduceSub, Nat.reduceMul, Nat.reduceLeDiff, Nat.reduceLT, reduceIte, reduceCtorEq, Nat.succ_ne_zero, elemsC, Int.reduceToNat, Nat.reducePow, i2, i6, o6, i7, i8, i9, i10, o8, o9, e1, e2]) | (simp (disch := (first | omega | (simp only [AL, List.length_map]; omega))) only [AR, AL, ifT, ifF, take_all, List.length_cons, List.length_nil, Int.reduceToNat, Int.reducePow, Nat.reducePow, i2, i6, o6, i7, i8, i9, i10, o8, o9, e1, e2]) | (refine wk_intro (by kernel_rfl) ?_) | (refine vp_draw (id := 1) (l := []) (by kernel_rfl) ?_) | (refine vp_draw (id := 2) (l := []) (by kernel_rfl) ?_) | (refine vp_draw (id := 6) (l := []) (by kernel_rfl) ?_) | (refine vp_draw (id := 8) (l := []) (by kernel_rfl) ?_) | (refine vp_draw (id := 10) (l := []) (by kernel_rfl) ?_) | (refine vf_of (by first | exact c1 | exact c2) ?_))
        exact ⟨3, rfl, by omega, by omega, by first | (rw [L3]; done) | (rw [L3]; rfl) | (rw [L3]; exact o8) | (rw [L3]; exact o9), by first | (rw [H3]; done) | (rw [H3]; rfl) | (rw [H3]; exact o8) | (rw [H3]; exact o9)⟩
      · rw [decide_eq_false k2] at e2
        rw [mxZ, if_neg k2] at H3
        clear k1 k2
        repeat (first | (simp only [go_sem, Nat.reduceEqDiff, Nat.reduceAdd, Nat.reduceSub, Nat.reduceMul, Nat.reduceLeDiff, Nat.reduceLT, reduceIte, reduceCtorEq, Nat.succ_ne_zero, elemsC, Int.reduceToNat, Nat.reducePow, i2, i6, o6, i7, i8, i9, i10, o8, o9, e1, e2]) | (simp (disch := (first | omega | (simp only [AL, List.length_map]; omega))) only [AR, AL, ifT, ifF, take_all, List.length_cons, List.length_nil, Int.reduceToNat, Int.reducePow, Nat.reducePow, i2, i6, o6, i7, i8, i9, i10, o8, o9, e1, e2]) | (refine wk_intro (by kernel_rfl) ?_) | (refine vp_draw (id := 1) (l := []) (by kernel_rfl) ?_) | (refine vp_draw (id := 2) (l := []) (by kernel_rfl) ?_) | (refine vp_draw (id := 6) (l := []) (by kernel_rfl) ?_) | (refine vp_draw (id := 8) (l := []) (by kernel_rfl) ?_) | (refine vp_draw (id := 10) (l := []) (by kernel_rfl) ?_) | (refine vf_of (by first | exact c1 | exact c2) ?_))
        exact ⟨3, rfl, by omega, by omega, by first | (rw [L3]; done) | (rw [L3]; rfl) | (rw [L3]; exact o8) | (rw [L3]; exact o9), by first | (rw [H3]; done) | (rw [H3]; rfl) | (rw [H3]; exact o8) | (rw [H3]; exact o9)⟩
  · have c1 := ref4_Cmp p4 (lo 3) (by omega) (by have := lL 3; omega)
    have c2 := ref4_Cmp p4 (hi 3) (by omega) (by have := lH 3; omega)
    have c3 := ref4_Cmp p4 (hi 3) (by omega) (by have := lH 3; omega)
    have e1 := cmpZ_lt (a := p4) (b := lo 3)
    have e2 := cmpZ_gt (a := p4) (b := hi 3)
    generalize cmpZ p4 (lo 3) = z1 at *
    generalize cmpZ p4 (hi 3) = z2 at *
    by_cases k1 : p4 < lo 3
    · rw [decide_eq_true k1] at e1
      rw [mnZ, if_pos k1] at L4
      by_cases k2 : hi 3 < p4
      · rw [decide_eq_true k2] at e2
        rw [mxZ, if_pos k2] at H4
        clear k1 k2
        repeat (first | (simp only [go_sem, Nat.reduceEqDiff, Nat.reduceAdd, Nat.reduceSub, Nat.reduceMul, Nat.reduceLeDiff, Nat.reduceLT, reduceIte, reduceCtorEq, Nat.succ_ne_zero, elemsC, Int.reduceToNat, Nat.reducePow, i2, i6, o6, i7, i8, i9, i10, o8, o9, e1, e2]) | (simp (disch := (first | omega | (simp only [AL, List.length_map]; omega))) only [AR, AL, ifT, ifF, take_all, List.length_cons, List.length_nil, Int.reduceToNat, Int.reducePow, Nat.reducePow, i2, i6, o6, i7, i8, i9, i10, o8, o9, e1, e2]) | (refine wk_intro (by kernel_rfl) ?_) | (refine vp_draw (id := 1) (l := []) (by kernel_rfl) ?_) | (refine vp_draw (id := 2) (l := []) (by kernel_rfl) ?_) | (refine vp_draw (id := 6) (l := []) (by kernel_rfl) ?_) | (refine vp_draw (id := 8) (l := []) (by kernel_rfl) ?_) | (refine vp_draw (id := 10) (l := []) (by kernel_rfl) ?_) | (refine vf_of (by first | exact c1 | exact c2) ?_))
        exact ⟨4, rfl, by omega, by omega, by first | (rw [L4]; done) | (rw [L4]; rfl) | (rw [L4]; exact o8) | (rw [L4]; exact o9), by first | (rw [H4]; done) | (rw [H4]; rfl) | (rw [H4]; exact o8) | (rw [H4]; exact o9)⟩
      · rw [decide_eq_false k2] at e2
        rw [mxZ, if_neg k2] at H4
        clear k1 k2
        repeat (first | (simp only [go_sem, Nat.reduceEqDiff, Nat.reduceAdd, Nat.reduceSub, Nat.reduceMul, Nat.reduceLeDiff, Nat.reduceLT, reduceIte, reduceCtorEq, Nat.succ_ne_zero, elemsC, Int.reduceToNat, Nat.reducePow, i2, i6, o6, i7, i8, i9, i10, o8, o9, e1, e2]) | (simp (disch := (first | omega | (simp only [AL, List.length_map]; omega))) only [AR, AL, ifT, ifF, take_all, List.length_cons, List.length_nil, Int.reduceToNat, Int.reducePow, Nat.reducePow, i2, i6, o6, i7, i8, i9, i10, o8, o9, e1, e2]) | (refine wk_intro (by kernel_rfl) ?_) | (refine vp_draw (id := 1) (l := []) (by kernel_rfl) ?_) | (refine vp_draw (id := 2) (l := []) (by kernel_rfl) ?_) | (refine vp_draw (id := 6) (l := []) (by kernel_rfl) ?_) | (refine vp_draw (id := 8) (l := []) (by kernel_rfl) ?_) | (refine vp_draw (id := 10) (l := []) (by kernel_rfl) ?_) | (refine vf_of (by first | exact c1 | exact c2) ?_))
        exact ⟨4, rfl, by omega, by omega, by first | (rw [L4]; done) | (rw [L4]; rfl) | (rw [L4]; exact o8) | (rw [L4]; exact o9), by first | (rw [H4]; done) | (rw [H4]; rfl) | (rw [H4]; exact o8) | (rw [H4]; exact o9)⟩
    · rw [decide_eq_false k1] at e1
      rw [mnZ, if_neg k1] at L4
      by_cases k2 : hi 3 < p4
      · rw [decide_eq_true k2] at e2
        rw [mxZ, if_pos k2] at H4
        clear k1 k2
        repeat (first | (simp only [go_sem, Nat.reduceEqDiff, Nat.reduceAdd, Nat.reduceSub, Nat.reduceMul, Nat.reduceLeDiff, Nat.reduceLT, reduceIte, reduceCtorEq, Nat.succ_ne_zero, elemsC, Int.reduceToNat, Nat.reducePow, i2, i6, o6, i7, i8, i9, i10, o8, o9, e1, e2]) | (simp (disch := (first | omega | (simp only [AL, List.length_map]; omega))) only [AR, AL, ifT, ifF, take_all, List.length_cons, List.length_nil, Int.reduceToNat, Int.reducePow, Nat.reducePow, i2, i6, o6, i7, i8, i9, i10, o8, o9, e1, e2]) | (refine wk_intro (by kernel_rfl) ?_) | (refine vp_draw (id := 1) (l := []) (by kernel_rfl) ?_) | (refine vp_draw (id := 2) (l := []) (by kernel_rfl) ?_) | (refine vp_draw (id := 6) (l := []) (by kernel_rfl) ?_) | (refine vp_draw (id := 8) (l := []) (by kernel_rfl) ?_) | (refine vp_draw (id := 10) (l := []) (by kernel_rfl) ?_) | (refine vf_of (by first | exact c1 | exact c2) ?_))
        exact ⟨4, rfl, by omega, by omega, by first | (rw [L4]; done) | (rw [L4]; rfl) | (rw [L4]; exact o8) | (rw [L4]; exact o9), by first | (rw [H4]; done) | (rw [H4]; rfl) | (rw [H4]; exact o8) | (rw [H4]; exact o9)⟩
      · rw [decide_eq_false k2] at e2
        rw [mxZ, if_neg k2] at H4
        clear k1 k2
        repeat (first | (simp only [go_sem, Nat.reduceEqDiff, Nat.reduceAdd, Nat.reduceSub, Nat.reduceMul, Nat.reduceLeDiff, Nat.reduceLT, reduceIte, reduceCtorEq, Nat.succ_ne_zero, elemsC, Int.reduceToNat, Nat.reducePow, i2, i6, o6, i7, i8, i9, i10, o8, o9, e1, e2]) | (simp (disch := (first | omega | (simp only [AL, List.length_map]; omega))) only [AR, AL, ifT, ifF, take_all, List.length_cons, List.length_nil, Int.reduceToNat, Int.reducePow, Nat.reducePow, i2, i6, o6, i7, i8, i9, i10, o8, o9, e1, e2]) | (refine wk_intro (by kernel_rfl) ?_) | (refine vp_draw (id := 1) (l := []) (by kernel_rfl) ?_) | (refine vp_draw (id := 2) (l := []) (by kernel_rfl) ?_) | (refine vp_draw (id := 6) (l := []) (by kernel_rfl) ?_) | (refine vp_draw (id := 8) (l := []) (by kernel_rfl) ?_) | (refine vp_draw (id := 10) (l := []) (by kernel_rfl) ?_) | (refine vf_of (by first | exact c1 | exact c2) ?_))
        exact ⟨4, rfl, by omega, by omega, by first | (rw [L4]; done) | (rw [L4]; rfl) | (rw [L4]; exact o8) | (rw [L4]; exact o9), by first | (rw [H4]; done) | (rw [H4]; rfl) | (rw [H4]; exact o8) | (rw [H4]; exact o9)⟩
end Go.Proofs.YtigiblhmhmgagaaGreat

/- Pi, to so many digits: pure functions on naturals that mirror arcs.pi and vernierref8.PiIv; the kernel reckons them at all widths that are wanted. No program. -/
namespace Go.Ev
/-- A number is reckoned before it is handed on. -/
def pin {α : Type} (n : Nat) (f : Nat → α) : α := match n with
  | 0 => f 0
  | m + 1 => f (m + 1)
/-- arcs.angle's rounds: the terms by Euler's row, until the last one is small. -/
def angGo (w b1 b2 : Nat) : Nat → Nat → Nat → Nat → Nat → Nat → Option (Nat × Nat)
  | 0, _, _, _, _, _ => none
  | f + 1, k, t1, t2, a1, a2 => if t2 < 4 then some (a1, a2 + 8) else
    pin (t1 * b1 / 2 ^ w * (2 * k) / (2 * k + 1)) fun u1 => pin ((t2 * b2 / 2 ^ w + 1) * (2 * k) / (2 * k + 1) + 1) fun u2 =>
    pin (a1 + u1) fun c1 => pin (a2 + u2) fun c2 => pin (k + 1) fun k' => angGo w b1 b2 f k' u1 u2 c1 c2
def angF (n d w : Nat) : Option (Nat × Nat) :=
  pin (n * n * 2 ^ w / (n * n + d * d)) fun b1 => pin (n * d * 2 ^ w / (n * n + d * d)) fun t1 => angGo w b1 (b1 + 1) 1000 1 t1 (t1 + 1) t1 (t1 + 1)
/-- arcs.pi. -/
def piF (w : Nat) : Option (Nat × Nat) := match angF 1 5 w, angF 1 239 w with
  | some (a1, a2), some (b1, b2) => some (a1 * 16 - (b2 * 4 + 1), (a2 * 16 + 1 - b1 * 4) + 1)
  | _, _ => none
/-- The root of pi, times 2 to 400. -/
def rootPi : Nat := 4576918740415440415430138886030104330034393630387746481038405196946375920276839941112766425178723903652484208164514262098
/-- At so many digits pi lies between two whole numbers, for certain: and the constant's square does. -/
def piOk (p : Nat) : Bool := match piF (p + 64) with
  | some (lo, hi) => pin (lo / 2 ^ 64) fun a => Nat.beq a ((hi - 1) / 2 ^ 64) && (Nat.ble (a * 2 ^ (800 - p)) (rootPi * rootPi) && Nat.ble (rootPi * rootPi) ((a + 1) * 2 ^ (800 - p)))
  | none => false
def allFrom (f : Nat → Bool) : Nat → Nat → Bool
  | 0, _ => true
  | n + 1, k => f k && allFrom f n (k + 1)
theorem pi_ok : allFrom piOk 217 8 = true := by kernel_rfl
/-- Rounded up. -/
def cdv (a b : Nat) : Nat := (a + b - 1) / b
/-- vernierref8.small's rounds; what is added and what is taken away stands apart: the sum is a1 .. a2 less b1 .. b2. -/
def smGo (w s1 s2 : Nat) : Nat → Nat → Bool → Nat → Nat → Nat → Nat → Nat → Nat → Option (Nat × Nat × Nat × Nat)
  | 0, _, _, _, _, _, _, _, _ => none
  | f + 1, i, odd, t1, t2, a1, a2, b1, b2 =>
    pin (t1 * s1 / 2 ^ w) fun u1 => pin (cdv (t2 * s2) (2 ^ w)) fun u2 => pin (u1 / (2 * i + 1)) fun x1 => pin (cdv u2 (2 * i + 1)) fun x2 => pin (i + 1) fun i' =>
    match odd with
    | true => pin (b1 + x1) fun c1 => pin (b2 + x2) fun c2 => if u2 ≤ 2 then some (a1, a2, c1, c2) else smGo w s1 s2 f i' false u1 u2 a1 a2 c1 c2
    | false => pin (a1 + x1) fun c1 => pin (a2 + x2) fun c2 => if u2 ≤ 2 then some (c1, c2, b1, b2) else smGo w s1 s2 f i' true u1 u2 c1 c2 b1 b2
def smF (d w : Nat) : Option (Nat × Nat) := pin (2 ^ w / d) fun y1 => pin (cdv (2 ^ w) d) fun y2 => pin (y1 * y1 / 2 ^ w) fun s1 => pin (cdv (y2 * y2) (2 ^ w)) fun s2 =>
  match smGo w s1 s2 1000 1 true y1 y2 y1 y2 0 0 with
  | some (a1, a2, b1, b2) => if b2 + 4 ≤ a1 ∧ b1 ≤ a2 then some (a1 - b2 - 4, a2 - b1 + 4) else none
  | none => none
/-- vernierref8.PiIv. -/
def piIv (w : Nat) : Option (Nat × Nat) := match smF 5 (w + 10), smF 239 (w + 10) with
  | some (a1, a2), some (b1, b2) => if b2 * 4 ≤ a1 * 16 ∧ b1 * 4 ≤ a2 * 16 then some ((a1 * 16 - b2 * 4) / 2 ^ 10, cdv (a2 * 16 - b1 * 4) (2 ^ 10)) else none
  | _, _ => none
def ivOk (w : Nat) : Bool := match piIv w with
  | some (lo, hi) => Nat.ble (lo * 2 ^ (800 - w)) (rootPi * rootPi) && Nat.ble (rootPi * rootPi) (hi * 2 ^ (800 - w))
  | none => false
theorem iv_ok : allFrom ivOk 121 190 = true := by kernel_rfl
end Go.Ev

/- vernierref8: part, small, PiIv, in the evaluator. -/
namespace Go.Proofs.YtigiblhmhmgagaaGreat
set_option linter.unusedSimpArgs false
set_option linter.unusedVariables false
set_option maxRecDepth 8000
open Go.Ev
theorem pin_eq {α : Type} (n : Nat) (f : Nat → α) : pin n f = f n := by cases n <;> rfl
/-- From one natural to another. -/
abbrev ivN (a b : Nat) : SV := .agg [.bool false, natV (lim a), .bool false, natV (lim b)]
abbrev intN (a : Nat) : SV := .agg [.bool false, natV (lim a)]
theorem intN_eq (n : Nat) : intV (n : Int) = intN n := iv_eq (Int.natAbs_natCast n) (decide_eq_false (by omega))
theorem ivN_eq (m n : Nat) : ivV (m : Int) (n : Int) = ivN m n := by
  show SV.agg [.bool (decide ((m : Int) < 0)), natV (lim (m : Int).natAbs), .bool (decide ((n : Int) < 0)), natV (lim (n : Int).natAbs)] = _
  rw [Int.natAbs_natCast, Int.natAbs_natCast, decide_eq_false (by omega), decide_eq_false (by omega)]
theorem cdv_le {a b c : Nat} (hb : 0 < b) (h : a ≤ c * b) : cdv a b ≤ c := by
  unfold cdv
  rw [Nat.div_le_iff_le_mul hb]
  omega
theorem div_le_cdv {a b d : Nat} (hd : 0 < d) (h : a ≤ b) : a / d ≤ cdv b d := by
  unfold cdv
  exact Nat.div_le_div_right (by omega)
theorem cdZ_nat {n d : Nat} (hd : 0 < d) : cdZ (n : Int) d = (cdv n d : Int) := by
  unfold cdZ cdv
  rw [fall_eq (a := -(n : Int)) (by omega), Int.natAbs_neg, Int.natAbs_natCast]
  have hm := Nat.div_add_mod n d
  have hl := Nat.mod_lt n hd
  by_cases h0 : n % d = 0
  · rw [if_neg (fun h => h.2 h0)]
    have e : (n + d - 1) / d = n / d := by
      rw [show n + d - 1 = (d - 1) + d * (n / d) by omega, Nat.add_mul_div_left _ _ hd, Nat.div_eq_of_lt (by omega), Nat.zero_add]
    rw [e]
    by_cases hn : n = 0
    · subst hn; simp [sgn]
    · rw [decide_eq_true (by omega)]
      show -(-((n / d : Nat) : Int)) = _
      omega
  · have hn : n ≠ 0 := by rintro rfl; simp at h0
    rw [if_pos ⟨by omega, h0⟩]
    have e : (n + d - 1) / d = n / d + 1 := by
      rw [show n + d - 1 = (n % d - 1) + d * (n / d + 1) by rw [Nat.mul_add]; omega, Nat.add_mul_div_left _ _ hd, Nat.div_eq_of_lt (by omega), Nat.zero_add]
    rw [e]
    omega
theorem loQ_nat {a b c d : Nat} (h1 : a ≤ b) (h2 : c ≤ d) : loQ a b c d = ((a * c : Nat) : Int) := by
  have e1 : a * c ≤ a * d := Nat.mul_le_mul_left _ h2
  have e2 : a * c ≤ b * c := Nat.mul_le_mul_right _ h1
  have e3 : a * c ≤ b * d := Nat.mul_le_mul h1 h2
  unfold loQ loP mnZ
  rw [← Int.natCast_mul, ← Int.natCast_mul, ← Int.natCast_mul, ← Int.natCast_mul]
  rw [if_neg (show ¬ ((a * d : Nat) : Int) < ((a * c : Nat) : Int) by omega), if_neg (show ¬ ((b * c : Nat) : Int) < ((a * c : Nat) : Int) by omega), if_neg (by omega)]
  rfl
theorem hiQ_nat {a b c d : Nat} (h1 : a ≤ b) (h2 : c ≤ d) : hiQ a b c d = ((b * d : Nat) : Int) := by
  have e1 : a * c ≤ a * d := Nat.mul_le_mul_left _ h2
  have e2 : a * c ≤ b * c := Nat.mul_le_mul_right _ h1
  have e3 : b * c ≤ b * d := Nat.mul_le_mul_left _ h2
  have e4 : a * d ≤ b * d := Nat.mul_le_mul_right _ h1
  unfold hiQ hiP mxZ
  rw [← Int.natCast_mul, ← Int.natCast_mul, ← Int.natCast_mul, ← Int.natCast_mul]
  repeat' split
  all_goals omega
theorem ref4_ProdN {a b c d w : Nat} (h1 : a ≤ b) (h2 : c ≤ d) (hb : (lim b).length ≤ 10000) (hd : (lim d).length ≤ 10000) (hw : w ≤ 4096) (h0 : 0 < w) :
    Go.Ev.Fn CX 68 [ivN a b, ivN c d, .int .i64 (w : Int)] (ivN (a * c / 2 ^ w) (cdv (b * d) (2 ^ w))) := by
  have la := lim_len_mono h1
  have lc := lim_len_mono h2
  have h := ref4_Prod (a := (a : Int)) (b := (b : Int)) (c := (c : Int)) (d := (d : Int)) (w := w) (by rw [Int.natAbs_natCast]; omega) (by rw [Int.natAbs_natCast]; omega) (by rw [Int.natAbs_natCast]; omega) (by rw [Int.natAbs_natCast]; omega) hw h0
  rw [loQ_nat h1 h2, hiQ_nat h1 h2, cdZ_nat (Nat.pow_pos (by omega)), ← Int.natCast_ediv, ivN_eq, ivN_eq, ivN_eq] at h
  exact h
theorem ref4_ByN {a b n : Nat} (ha : (lim a).length ≤ 100000) (hb : (lim b).length ≤ 100000) (h0 : 0 < n) (hn : n < 9223372036854775808) : Go.Ev.Fn CX 113 [ivN a b, .int .i64 (n : Int)] (ivN (a / n) (cdv b n)) := by
  have h := ref4_By (a := (a : Int)) (b := (b : Int)) (by rw [Int.natAbs_natCast]; omega) (by rw [Int.natAbs_natCast]; omega) n h0 hn
  rw [cdZ_nat h0, ← Int.natCast_ediv, ivN_eq, ivN_eq] at h
  exact h
theorem ref4_MinusN {x y : Int} {c d : Nat} (hx : (lim x.natAbs).length ≤ 100000) (hy : (lim y.natAbs).length ≤ 100000) (hc : (lim c).length ≤ 100000) (hd : (lim d).length ≤ 100000) : Go.Ev.Fn CX 37 [ivV x y, ivN c d] (ivV (x - d) (y - c)) := by
  have h := ref4_Minus (c := (c : Int)) (d := (d : Int)) hx hy (by rw [Int.natAbs_natCast]; omega) (by rw [Int.natAbs_natCast]; omega)
  rw [ivN_eq] at h
  exact h
theorem ref4_SumN {x y : Int} {c d : Nat} (hx : (lim x.natAbs).length ≤ 100000) (hy : (lim y.natAbs).length ≤ 100000) (hc : (lim c).length ≤ 100000) (hd : (lim d).length ≤ 100000) : Go.Ev.Fn CX 114 [ivV x y, ivN c d] (ivV (x + c) (y + d)) := by
  have h := ref4_Sum (c := (c : Int)) (d := (d : Int)) hx hy (by rw [Int.natAbs_natCast]; omega) (by rw [Int.natAbs_natCast]; omega)
  rw [ivN_eq] at h
  exact h
theorem ref4_MostN {a b : Nat} (h1 : a ≤ b) (hb : (lim b).length ≤ 100000) : Go.Ev.Fn CX 115 [ivN a b] (intN b) := by
  have la := lim_len_mono h1
  have h := ref4_Most (a := (a : Int)) (b := (b : Int)) (by rw [Int.natAbs_natCast]; omega) (by rw [Int.natAbs_natCast]; omega)
  rw [Int.natAbs_natCast, Int.natAbs_natCast, Nat.max_eq_right h1, ivN_eq, intN_eq] at h
  exact h
theorem ref4_CmpN {a b : Nat} (ha : (lim a).length ≤ 100000) (hb : (lim b).length ≤ 100000) : Go.Ev.Fn CX 106 [intN a, intN b] (.int .i64 (cmpZ a b)) := by
  have h := ref4_Cmp (a : Int) (b : Int) (by rw [Int.natAbs_natCast]; omega) (by rw [Int.natAbs_natCast]; omega)
  rw [intN_eq, intN_eq] at h
  exact h
theorem lim_len_p2 {n w : Nat} (h : n ≤ 2 ^ w) (hw : w ≤ 1000) : (lim n).length ≤ 40 := by
  have l := lim_len_shl (a := 1) (n := w)
  have l1 := lim_len1
  rw [Nat.one_mul] at l
  have := lim_len_mono h
  omega
section
variable {w s1 s2 : Nat}
set_option maxHeartbeats 1000000 in
theorem ref8_small {v : SV} {q : Rat} {d A B : Nat} (hv : RatA v q 2) (hq : q.num = 1) (hd : q.den = d) (hdd : 0 < d) (hw : w ≤ 900) (hw0 : 0 < w) (hs : smF d w = some (A, B)) :
    Go.Ev.Fn CX 110 [v, .int .i64 (w : Int)] (ivN A B) := by
  have nm := ref4_Num hv (w := w) (by omega) (by omega) (by omega)
  rw [hq, hd, Int.one_mul, cdZ_nat hdd, ← Int.natCast_ediv, ivN_eq] at nm
  unfold smF at hs
  rw [pin_eq, pin_eq, pin_eq, pin_eq] at hs
  have hP : 0 < 2 ^ w := Nat.pow_pos (by omega)
  have y2T : cdv (2 ^ w) d ≤ 2 ^ w := cdv_le hdd (Nat.le_mul_of_pos_right _ hdd)
  have y12 : 2 ^ w / d ≤ cdv (2 ^ w) d := by
    unfold cdv
    exact Nat.div_le_div_right (by omega)
  generalize 2 ^ w / d = y1 at *
  generalize cdv (2 ^ w) d = y2 at *
  have ly2 := lim_len_p2 y2T (by omega)
  have ps := ref4_ProdN (a := y1) (b := y2) (c := y1) (d := y2) (w := w) y12 y12 (by omega) (by omega) (by omega) hw0
  have s2T : cdv (y2 * y2) (2 ^ w) ≤ 2 ^ w := cdv_le hP (Nat.mul_le_mul y2T y2T)
  have s12 : y1 * y1 / 2 ^ w ≤ cdv (y2 * y2) (2 ^ w) := by
    unfold cdv
    refine Nat.div_le_div_right ?_
    have := Nat.mul_le_mul y12 y12
    omega
  generalize y1 * y1 / 2 ^ w = s1 at *
  generalize cdv (y2 * y2) (2 ^ w) = s2 at *
  have ls2 := lim_len_p2 s2T (by omega)
  split at hs
  · rename_i A1 A2 B1 B2 hgo
    by_cases hfin : B2 + 4 ≤ A1 ∧ B1 ≤ A2
    · rw [if_pos hfin] at hs
      obtain ⟨rfl, rfl⟩ : A1 - B2 - 4 = A ∧ A2 - B1 + 4 = B := by simpa using hs
      clear hs
      have w2 := ref4_Whole 2 (by omega)
      rw [show (2 : Int) = ((2 : Nat) : Int) from rfl, intN_eq] at w2
      have l2 : (lim 2).length ≤ 1 := lim_len_one (by decide)
      obtain ⟨s0, n0, d0, rfl, -⟩ := hv
      refine Go.Ev.Fn.intro (fn := Tryz.f110) (body := (Tryz.f110).body.get!) (by kernel_rfl) (by kernel_rfl) (by kernel_rfl) (fun _ => rfl) (Nat.le_of_ble_eq_true (by kernel_rfl)) ?_; unfold Tryz.f110; simp only [Option.get!_some]
      repeat (first | (simp only [go_sem, Nat.reduceEqDiff, Nat.reduceAdd, Nat.reduceSub, Nat.reduceMul, Nat.reduceLeDiff, Nat.reduceLT, reduceIte, reduceCtorEq, Nat.succ_ne_zero, elemsC, Int.reduceToNat, Nat.reducePow]) | (simp (disch := (first | omega | (simp only [AL, List.length_map]; omega))) only [AR, AL, ifT, ifF, take_all, List.length_cons, List.length_nil, Int.reduceToNat, Int.reducePow, Nat.reducePow]) | (refine wk_intro (by kernel_rfl) ?_) | (refine vp_draw (id := 3) (l := []) (by kernel_rfl) ?_) | (refine vf_of (by first | exact nm | exact ps) ?_))
      refine vp_loop_inv (fun s => s.tmp 1 = .sv (.int .i64 (w : Int)) ∧ s.tmp 4 = .ptr 4 0 0 ∧ s.obj 4 0 = some [.bool false, .sl 0 [], .bool false, .sl 0 []] ∧ s.tmp 6 = .ptr 6 0 0 ∧ s.obj 6 0 = some [.bool false, natV (lim s1), .bool false, natV (lim s2)] ∧ s.tmp 7 = .ptr 7 0 0 ∧ s.tmp 8 = .ptr 8 0 0 ∧
          ∃ (f i t1 t2 a1 a2 b1 b2 : Nat) (x y : Int), s.tmp 9 = .sv (.int .i64 (i : Int)) ∧ f + i = 1001 ∧ 1 ≤ i ∧ smGo w s1 s2 f i (decide (i % 2 = 1)) t1 t2 a1 a2 b1 b2 = some (A1, A2, B1, B2) ∧
            s.obj 8 0 = some [.bool false, natV (lim t1), .bool false, natV (lim t2)] ∧ s.obj 7 0 = some [.bool (decide (x < 0)), natV (lim x.natAbs), .bool (decide (y < 0)), natV (lim y.natAbs)] ∧
            x = (a1 : Int) - b2 ∧ y = (a2 : Int) - b1 ∧ t1 ≤ t2 ∧ t2 ≤ 2 ^ w ∧ a1 ≤ i * 2 ^ w ∧ a2 ≤ i * 2 ^ w ∧ b1 ≤ i * 2 ^ w ∧ b2 ≤ i * 2 ^ w)
        (fun s => match s.tmp 9 with | .sv (.int _ i) => 1002 - i.toNat | _ => 0) ⟨rfl, rfl, rfl, rfl, rfl, rfl, rfl, 1000, 1, y1, y2, y1, y2, 0, 0, (y1 : Int), (y2 : Int), rfl, rfl, by omega, hgo, rfl, ?_, by omega, by omega, y12, y2T, by omega, by omega, by omega, by omega⟩ ?_
      · rw [show decide ((y1 : Int) < 0) = false from decide_eq_false (by omega), show decide ((y2 : Int) < 0) = false from decide_eq_false (by omega), Int.natAbs_natCast, Int.natAbs_natCast]
        rfl
      rintro s ⟨i1, i4, o4, i6, o6, i7, i8, f, i, t1, t2, a1, a2, b1, b2, x, y, i9, hfi, hi, hg, o8, o7, hx, hy, g1, g2, g3, g4, g5, g6⟩
      cases f with
      | zero => simp only [smGo] at hg; cases hg
      | succ f =>
        have lt2 := lim_len_p2 g2 (by omega)
        have pp := ref4_ProdN (a := t1) (b := t2) (c := s1) (d := s2) (w := w) g1 s12 (by omega) (by omega) (by omega) hw0
        have u2t : cdv (t2 * s2) (2 ^ w) ≤ t2 := cdv_le hP (Nat.mul_le_mul_left _ s2T)
        have u12 : t1 * s1 / 2 ^ w ≤ cdv (t2 * s2) (2 ^ w) := by
          unfold cdv
          refine Nat.div_le_div_right ?_
          have := Nat.mul_le_mul g1 s12
          omega
        have hbig : i * 2 ^ w ≤ 2 ^ (w + 10) := by
          rw [Nat.pow_add, Nat.mul_comm (2 ^ w)]
          exact Nat.mul_le_mul_right _ (by omega)
        have hpl : (i + 1) * 2 ^ w = i * 2 ^ w + 2 ^ w := by rw [Nat.add_mul, Nat.one_mul]
        have hi2 : 2 ^ w ≤ i * 2 ^ w := Nat.le_mul_of_pos_left _ (by omega)
        have big2 : i * 2 ^ w + i * 2 ^ w ≤ 2 ^ (w + 11) := by rw [show w + 11 = w + 10 + 1 by omega, Nat.pow_succ]; omega
        have nz : 2 * i + 1 ≠ 0 := by omega
        have by1 := ref4_ByN (a := t1 * s1 / 2 ^ w) (b := cdv (t2 * s2) (2 ^ w)) (n := 2 * i + 1) (Nat.le_trans (lim_len_mono (Nat.le_trans u12 u2t)) (by omega)) (Nat.le_trans (lim_len_mono u2t) (by omega)) (by omega) (by omega)
        have x2u : cdv (cdv (t2 * s2) (2 ^ w)) (2 * i + 1) ≤ cdv (t2 * s2) (2 ^ w) := cdv_le (by omega) (Nat.le_mul_of_pos_right _ (by omega))
        have x12 : t1 * s1 / 2 ^ w / (2 * i + 1) ≤ cdv (cdv (t2 * s2) (2 ^ w)) (2 * i + 1) := div_le_cdv (by omega) u12
        have mo := ref4_MostN (a := t1 * s1 / 2 ^ w) (b := cdv (t2 * s2) (2 ^ w)) u12 (Nat.le_trans (lim_len_mono u2t) (by omega))
        have cc := ref4_CmpN (a := cdv (t2 * s2) (2 ^ w)) (b := 2) (Nat.le_trans (lim_len_mono u2t) (by omega)) (by omega)
        have ec : decide (cmpZ ((cdv (t2 * s2) (2 ^ w) : Nat) : Int) ((2 : Nat) : Int) ≤ 0) = decide (cdv (t2 * s2) (2 ^ w) ≤ 2) := by rw [cmpZ_le]; exact decide_eq_decide.2 (by omega)
        have tm : (i : Int).tmod 2 = ((i % 2 : Nat) : Int) := _root_.id rfl
        simp only [smGo, pin_eq] at hg
        generalize cmpZ ((cdv (t2 * s2) (2 ^ w) : Nat) : Int) ((2 : Nat) : Int) = z at *
        generalize t1 * s1 / 2 ^ w = u1 at *
        generalize cdv (t2 * s2) (2 ^ w) = u2 at *
        generalize u1 / (2 * i + 1) = x1 at *
        generalize cdv u2 (2 * i + 1) = x2 at *
        have lu2 := lim_len_p2 (Nat.le_trans u2t g2) (by omega)
        have lx2 := lim_len_mono x2u
        have lx1 := lim_len_mono x12
        have lx := lim_len_p2 (n := x.natAbs) (w := w + 10) (by omega) (by omega)
        have ly := lim_len_p2 (n := y.natAbs) (w := w + 10) (by omega) (by omega)
        rw [show ((2 * i + 1 : Nat) : Int) = 2 * (i : Int) + 1 by omega] at by1
        rcases Nat.mod_two_eq_zero_or_one i with hpar | hpar
        · rw [hpar] at tm
          rw [hpar, show decide ((0 : Nat) = 1) = false from rfl] at hg
          replace hg : (if u2 ≤ 2 then some (a1 + x1, a2 + x2, b1, b2) else smGo w s1 s2 f (i + 1) true u1 u2 (a1 + x1) (a2 + x2) b1 b2) = some (A1, A2, B1, B2) := hg
          have sm := ref4_SumN (x := x) (y := y) (c := x1) (d := x2) (by omega) (by omega) (by omega) (by omega)
          have lX := lim_len_p2 (n := (x + x1).natAbs) (w := w + 11) (by omega) (by omega)
          have lY := lim_len_p2 (n := (y + x2).natAbs) (w := w + 11) (by omega) (by omega)
          by_cases hu : u2 ≤ 2
          · rw [decide_eq_true hu] at ec
            rw [if_pos hu] at hg
            have wd := ref4_Wide (a := x + x1) (b := y + x2) (by omega) (by omega) 4 (by omega)
            simp only [Option.some.injEq, Prod.mk.injEq] at hg
            rw [show x + x1 - 4 = ((A1 - B2 - 4 : Nat) : Int) by omega, show y + x2 + 4 = ((A2 - B1 + 4 : Nat) : Int) by omega, ivN_eq] at wd
            generalize x + x1 = X at *
            generalize y + x2 = Y at *
            clear hg hx hy
            repeat (first | (simp only [go_sem, Nat.reduceEqDiff, Nat.reduceAdd, Nat.reduceSub, Nat.reduceMul, Nat.reduceLeDiff, Nat.reduceLT, reduceIte, reduceCtorEq, Nat.succ_ne_zero, elemsC, Int.reduceToNat, Nat.reducePow, i1, i4, o4, i6, o6, i7, i8, i9, o8, o7, tm, ec]) | (simp (disch := (first | omega | (simp only [AL, List.length_map]; omega))) only [AR, AL, ifT, ifF, take_all, List.length_cons, List.length_nil, Int.reduceToNat, Int.reducePow, Nat.reducePow, i1, i4, o4, i6, o6, i7, i8, i9, o8, o7, tm, ec]) | (refine wk_intro (by kernel_rfl) ?_) | (refine vp_draw (id := 3) (l := []) (by kernel_rfl) ?_) | (refine vf_of (by first | exact pp | exact by1 | exact sm | exact mo | exact w2 | exact cc | exact wd) ?_))
          · rw [decide_eq_false hu] at ec
            rw [if_neg hu] at hg
            have hpar' : decide ((i + 1) % 2 = 1) = true := decide_eq_true (by omega)
            rw [← hpar'] at hg
            generalize hX : x + x1 = X at *
            generalize hY : y + x2 = Y at *
            repeat (first | (simp only [go_sem, Nat.reduceEqDiff, Nat.reduceAdd, Nat.reduceSub, Nat.reduceMul, Nat.reduceLeDiff, Nat.reduceLT, reduceIte, reduceCtorEq, Nat.succ_ne_zero, elemsC, Int.reduceToNat, Nat.reducePow, i1, i4, o4, i6, o6, i7, i8, i9, o8, o7, tm, ec]) | (simp (disch := (first | omega | (simp only [AL, List.length_map]; omega))) only [AR, AL, ifT, ifF, take_all, List.length_cons, List.length_nil, Int.reduceToNat, Int.reducePow, Nat.reducePow, i1, i4, o4, i6, o6, i7, i8, i9, o8, o7, tm, ec]) | (refine wk_intro (by kernel_rfl) ?_) | (refine vp_draw (id := 3) (l := []) (by kernel_rfl) ?_) | (refine vf_of (by first | exact pp | exact by1 | exact sm | exact mo | exact w2 | exact cc) ?_))
            exact ⟨⟨f, i + 1, u1, u2, a1 + x1, a2 + x2, b1, b2, X, Y, rfl, by omega, by omega, hg, rfl, rfl, by omega, by omega, by omega, by omega, by omega, by omega, by omega, by omega⟩, by omega⟩
        · rw [hpar] at tm
          rw [hpar, show decide ((1 : Nat) = 1) = true from rfl] at hg
          replace hg : (if u2 ≤ 2 then some (a1, a2, b1 + x1, b2 + x2) else smGo w s1 s2 f (i + 1) false u1 u2 a1 a2 (b1 + x1) (b2 + x2)) = some (A1, A2, B1, B2) := hg
          have sm := ref4_MinusN (x := x) (y := y) (c := x1) (d := x2) (by omega) (by omega) (by omega) (by omega)
          have lX := lim_len_p2 (n := (x - x2).natAbs) (w := w + 11) (by omega) (by omega)
          have lY := lim_len_p2 (n := (y - x1).natAbs) (w := w + 11) (by omega) (by omega)
          by_cases hu : u2 ≤ 2
          · rw [decide_eq_true hu] at ec
            rw [if_pos hu] at hg
            have wd := ref4_Wide (a := x - x2) (b := y - x1) (by omega) (by omega) 4 (by omega)
            simp only [Option.some.injEq, Prod.mk.injEq] at hg
            rw [show x - x2 - 4 = ((A1 - B2 - 4 : Nat) : Int) by omega, show y - x1 + 4 = ((A2 - B1 + 4 : Nat) : Int) by omega, ivN_eq] at wd
            generalize x - x2 = X at *
            generalize y - x1 = Y at *
            clear hg hx hy
            repeat (first | (simp only [go_sem, Nat.reduceEqDiff, Nat.reduceAdd, Nat.reduceSub, Nat.reduceMul, Nat.reduceLeDiff, Nat.reduceLT, reduceIte, reduceCtorEq, Nat.succ_ne_zero, elemsC, Int.reduceToNat, Nat.reducePow, i1, i4, o4, i6, o6, i7, i8, i9, o8, o7, tm, ec]) | (simp (disch := (first | omega | (simp only [AL, List.length_map]; omega))) only [AR, AL, ifT, ifF, take_all, List.length_cons, List.length_nil, Int.reduceToNat, Int.reducePow, Nat.reducePow, i1, i4, o4, i6, o6, i7, i8, i9, o8, o7, tm, ec]) | (refine wk_intro (by kernel_rfl) ?_) | (refine vp_draw (id := 3) (l := []) (by kernel_rfl) ?_) | (refine vf_of (by first | exact pp | exact by1 | exact sm | exact mo | exact w2 | exact cc | exact wd) ?_))
          · rw [decide_eq_false hu] at ec
            rw [if_neg hu] at hg
            have hpar' : decide ((i + 1) % 2 = 1) = false := decide_eq_false (by omega)
            rw [← hpar'] at hg
            generalize hX : x - x2 = X at *
            generalize hY : y - x1 = Y at *
            repeat (first | (simp only [go_sem, Nat.reduceEqDiff, Nat.reduceAdd, Nat.reduceSub, Nat.reduceMul, Nat.reduceLeDiff, Nat.reduceLT, reduceIte, reduceCtorEq, Nat.succ_ne_zero, elemsC, Int.reduceToNat, Nat.reducePow, i1, i4, o4, i6, o6, i7, i8, i9, o8, o7, tm, ec]) | (simp (disch := (first | omega | (simp only [AL, List.length_map]; omega))) only [AR, AL, ifT, ifF, take_all, List.length_cons, List.length_nil, Int.reduceToNat, Int.reducePow, Nat.reducePow, i1, i4, o4, i6, o6, i7, i8, i9, o8, o7, tm, ec]) | (refine wk_intro (by kernel_rfl) ?_) | (refine vp_draw (id := 3) (l := []) (by kernel_rfl) ?_) | (refine vf_of (by first | exact pp | exact by1 | exact sm | exact mo | exact w2 | exact cc) ?_))
            exact ⟨⟨f, i + 1, u1, u2, a1, a2, b1 + x1, b2 + x2, X, Y, rfl, by omega, by omega, hg, rfl, rfl, by omega, by omega, by omega, by omega, by omega, by omega, by omega, by omega⟩, by omega⟩
    · rw [if_neg hfin] at hs; cases hs
  · cases hs
end
theorem ref8_part {n : Nat} (hn : n < 4294967296) : Go.Ev.Fn CX 111 [.int .u32 (n : Int)] (rv (mkRat 1 n)) := by
  have o := ref2_Of false [1] [n] (by simp [okL]) (by simp [okL]; exact hn) (by simp) (by simp)
  rw [show wth [1] = 1 from rfl, show wth [n] = n by simp [wth]] at o
  have o' : Go.Ev.Fn CX 19 [.bool false, .sl 1 [.int .u32 1], .sl 1 [.int .u32 (n : Int)]] (rv (mkRat 1 n)) := o
  clear o
  generalize mkRat 1 n = q at *
  refine Go.Ev.Fn.intro (fn := Tryz.f111) (body := (Tryz.f111).body.get!) (by kernel_rfl) (by kernel_rfl) (by kernel_rfl) (fun _ => rfl) (Nat.le_of_ble_eq_true (by kernel_rfl)) ?_; unfold Tryz.f111; simp only [Option.get!_some]
  repeat (first | (simp only [go_sem, Nat.reduceEqDiff, Nat.reduceAdd, Nat.reduceSub, Nat.reduceMul, Nat.reduceLeDiff, Nat.reduceLT, reduceIte, reduceCtorEq, Nat.succ_ne_zero, elemsC, Int.reduceToNat, Nat.reducePow]) | (simp (disch := (first | omega | (simp only [AL, List.length_map]; omega))) only [AR, AL, ifT, ifF, take_all, List.length_cons, List.length_nil, Int.reduceToNat, Int.reducePow, Nat.reducePow]) | (refine wk_intro (by kernel_rfl) ?_) | (refine vf_of (by first | exact o') ?_))
theorem ref4_OftenN {a b n : Nat} (ha : (lim a).length ≤ 100000) (hb : (lim b).length ≤ 100000) (hn : n < 4294967296) : Go.Ev.Fn CX 112 [ivN a b, .int .i64 (n : Int)] (ivN (a * n) (b * n)) := by
  have h := ref4_Often (a := (a : Int)) (b := (b : Int)) (by rw [Int.natAbs_natCast]; omega) (by rw [Int.natAbs_natCast]; omega) (n : Int) (by omega)
  rw [← Int.natCast_mul, ← Int.natCast_mul, ivN_eq, ivN_eq] at h
  exact h
theorem ref4_BackN {a b n : Nat} (ha : (lim a).length ≤ 100000) (hb : (lim b).length ≤ 100000) (hn : n ≤ 4096) (h0 : 0 < n) : Go.Ev.Fn CX 72 [ivN a b, .int .i64 (n : Int)] (ivN (a / 2 ^ n) (cdv b (2 ^ n))) := by
  have h := ref4_Back (a := (a : Int)) (b := (b : Int)) (by rw [Int.natAbs_natCast]; omega) (by rw [Int.natAbs_natCast]; omega) n hn h0
  rw [cdZ_nat (Nat.pow_pos (by omega)), ← Int.natCast_ediv, ivN_eq, ivN_eq] at h
  exact h
/-- An angle's interval is no wider than so. -/
theorem smGo_bd {w s1 s2 T : Nat} (hs1 : s1 ≤ 2 ^ w) (hs : s2 ≤ 2 ^ w) : ∀ (f i : Nat) (odd : Bool) (t1 t2 a1 a2 b1 b2 : Nat) {A1 A2 B1 B2 : Nat}, smGo w s1 s2 f i odd t1 t2 a1 a2 b1 b2 = some (A1, A2, B1, B2) → t1 ≤ T → t2 ≤ T → A1 ≤ a1 + f * T ∧ A2 ≤ a2 + f * T := by
  intro f
  induction f with
  | zero => intro i odd t1 t2 a1 a2 b1 b2 A1 A2 B1 B2 h; simp only [smGo] at h; cases h
  | succ f ih =>
    intro i odd t1 t2 a1 a2 b1 b2 A1 A2 B1 B2 h ht1 ht
    have hP : 0 < 2 ^ w := Nat.pow_pos (by omega)
    have u1t : t1 * s1 / 2 ^ w ≤ t1 := (Nat.div_le_iff_le_mul hP).2 (by have := Nat.mul_le_mul_left t1 hs1; omega)
    have x1u := Nat.div_le_self (t1 * s1 / 2 ^ w) (2 * i + 1)
    have u2t : cdv (t2 * s2) (2 ^ w) ≤ t2 := cdv_le hP (Nat.mul_le_mul_left _ hs)
    have x2u : cdv (cdv (t2 * s2) (2 ^ w)) (2 * i + 1) ≤ cdv (t2 * s2) (2 ^ w) := cdv_le (by omega) (Nat.le_mul_of_pos_right _ (by omega))
    simp only [smGo, pin_eq] at h
    generalize cdv (t2 * s2) (2 ^ w) = u2 at *
    generalize cdv u2 (2 * i + 1) = x2 at *
    generalize t1 * s1 / 2 ^ w = u1 at *
    generalize u1 / (2 * i + 1) = x1 at *
    rw [Nat.add_mul, Nat.one_mul]
    cases odd with
    | true =>
      replace h : (if u2 ≤ 2 then some (a1, a2, b1 + x1, b2 + x2) else smGo w s1 s2 f (i + 1) false u1 u2 a1 a2 (b1 + x1) (b2 + x2)) = some (A1, A2, B1, B2) := h
      split at h
      · simp only [Option.some.injEq, Prod.mk.injEq] at h
        omega
      · have := ih _ _ _ _ _ _ _ _ h (by omega) (by omega)
        omega
    | false =>
      replace h : (if u2 ≤ 2 then some (a1 + x1, a2 + x2, b1, b2) else smGo w s1 s2 f (i + 1) true u1 u2 (a1 + x1) (a2 + x2) b1 b2) = some (A1, A2, B1, B2) := h
      split at h
      · simp only [Option.some.injEq, Prod.mk.injEq] at h
        omega
      · have := ih _ _ _ _ _ _ _ _ h (by omega) (by omega)
        omega
theorem smF_bd {d w A B : Nat} (hd : 0 < d) (hw : w ≤ 900) (h : smF d w = some (A, B)) : (lim A).length ≤ 50 ∧ (lim B).length ≤ 50 := by
  unfold smF at h
  rw [pin_eq, pin_eq, pin_eq, pin_eq] at h
  have hP : 0 < 2 ^ w := Nat.pow_pos (by omega)
  have y2T : cdv (2 ^ w) d ≤ 2 ^ w := cdv_le hd (Nat.le_mul_of_pos_right _ hd)
  have s2T : cdv (cdv (2 ^ w) d * cdv (2 ^ w) d) (2 ^ w) ≤ 2 ^ w := cdv_le hP (Nat.mul_le_mul y2T y2T)
  split at h
  · rename_i A1 A2 B1 B2 hgo
    have y1T : 2 ^ w / d ≤ 2 ^ w := Nat.div_le_self _ _
    have s1T : 2 ^ w / d * (2 ^ w / d) / 2 ^ w ≤ 2 ^ w := (Nat.div_le_iff_le_mul hP).2 (by have := Nat.mul_le_mul y1T y1T; omega)
    have hb := smGo_bd s1T s2T _ _ _ _ _ _ _ _ _ hgo y1T y2T
    split at h
    · simp only [Option.some.injEq, Prod.mk.injEq] at h
      have hbig : 2 ^ w * 2048 = 2 ^ (w + 11) := by rw [Nat.pow_add]
      have l1 := lim_len_p2 (n := B - 4) (w := w + 11) (by omega) (by omega)
      have l2 : (lim B).length ≤ 41 := Nat.le_trans (lim_len_mono (show B ≤ (B - 4) + 4 by omega)) (lim_len_add (L := 40) l1 (Nat.le_trans (lim_len_one (by decide)) (by omega)))
      exact ⟨Nat.le_trans (lim_len_p2 (n := A) (w := w + 11) (by omega) (by omega)) (by omega), by omega⟩
    · cases h
  · cases h
theorem ref8_PiIv {w lo hi : Nat} (hw : w ≤ 800) (h : piIv w = some (lo, hi)) : Go.Ev.Fn CX 71 [.int .i64 (w : Int)] (ivN lo hi) := by
  unfold piIv at h
  split at h
  · rename_i a1 a2 b1 b2 h1 h2
    split at h
    · rename_i hc
      obtain ⟨rfl, rfl⟩ : (a1 * 16 - b2 * 4) / 2 ^ 10 = lo ∧ cdv (a2 * 16 - b1 * 4) (2 ^ 10) = hi := by simpa using h
      clear h
      have p5 := ref8_part (n := 5) (by omega)
      have p239 := ref8_part (n := 239) (by omega)
      have z5 : szR (mkRat 1 5) 2 := ⟨lim_len_lt (by decide +kernel), lim_len_lt (by decide +kernel)⟩
      have z239 : szR (mkRat 1 239) 2 := ⟨lim_len_lt (by decide +kernel), lim_len_lt (by decide +kernel)⟩
      have s5 := ref8_small (d := 5) (RatA_rv z5) (by decide +kernel) (by decide +kernel) (by omega) (by omega) (by omega) h1
      have s239 := ref8_small (d := 239) (RatA_rv z239) (by decide +kernel) (by decide +kernel) (by omega) (by omega) (by omega) h2
      obtain ⟨g1, g2⟩ := smF_bd (by omega) (by omega) h1
      obtain ⟨g3, g4⟩ := smF_bd (by omega) (by omega) h2
      have o1 := ref4_OftenN (a := a1) (b := a2) (n := 16) (by omega) (by omega) (by omega)
      have o2 := ref4_OftenN (a := b1) (b := b2) (n := 4) (by omega) (by omega) (by omega)
      have l16 : (lim 16).length ≤ 1 := lim_len_one (by decide)
      have l4 : (lim 4).length ≤ 1 := lim_len_one (by decide)
      have e1 := lim_len_mul (a := a1) (b := 16)
      have e2 := lim_len_mul (a := a2) (b := 16)
      have e3 := lim_len_mul (a := b1) (b := 4)
      have e4 := lim_len_mul (a := b2) (b := 4)
      have m := ref4_MinusN (x := ((a1 * 16 : Nat) : Int)) (y := ((a2 * 16 : Nat) : Int)) (c := b1 * 4) (d := b2 * 4) (by rw [Int.natAbs_natCast]; omega) (by rw [Int.natAbs_natCast]; omega) (by omega) (by omega)
      rw [← Int.ofNat_sub hc.1, ← Int.ofNat_sub hc.2, ivN_eq, ivN_eq] at m
      have l5 := lim_len_mono (Nat.sub_le (a1 * 16) (b2 * 4))
      have l6 := lim_len_mono (Nat.sub_le (a2 * 16) (b1 * 4))
      have bk := ref4_BackN (a := a1 * 16 - b2 * 4) (b := a2 * 16 - b1 * 4) (n := 10) (by omega) (by omega) (by omega) (by omega)
      generalize (a1 * 16 - b2 * 4) / 2 ^ 10 = x at *
      generalize cdv (a2 * 16 - b1 * 4) (2 ^ 10) = y at *
      generalize a1 * 16 - b2 * 4 = x1 at *
      generalize a2 * 16 - b1 * 4 = x2 at *
      generalize a1 * 16 = x3 at *
      generalize a2 * 16 = x4 at *
      generalize b1 * 4 = x5 at *
      generalize b2 * 4 = x6 at *
      generalize mkRat 1 5 = q5 at *
      generalize mkRat 1 239 = q239 at *
      rw [show ((w + 10 : Nat) : Int) = (w : Int) + 10 by omega] at s5 s239
      refine Go.Ev.Fn.intro (fn := Tryz.f71) (body := (Tryz.f71).body.get!) (by kernel_rfl) (by kernel_rfl) (by kernel_rfl) (fun _ => rfl) (Nat.le_of_ble_eq_true (by kernel_rfl)) ?_; unfold Tryz.f71; simp only [Option.get!_some]
      repeat (first | (simp only [go_sem, Nat.reduceEqDiff, Nat.reduceAdd, Nat.reduceSub, Nat.reduceMul, Nat.reduceLeDiff, Nat.reduceLT, reduceIte, reduceCtorEq, Nat.succ_ne_zero, elemsC, Int.reduceToNat, Nat.reducePow]) | (simp (disch := (first | omega | (simp only [AL, List.length_map]; omega))) only [AR, AL, ifT, ifF, take_all, List.length_cons, List.length_nil, Int.reduceToNat, Int.reducePow, Nat.reducePow]) | (refine wk_intro (by kernel_rfl) ?_) | (refine vp_draw (id := 2) (l := []) (by kernel_rfl) ?_) | (refine vf_of (by first | exact p5 | exact s5 | exact p239 | exact s239 | exact o1 | exact o2 | exact m | exact bk) ?_))
    · cases h
  · cases h
end Go.Proofs.YtigiblhmhmgagaaGreat

/- The row of beta's share: a pure function on naturals that mirrors incb.row; it ends; how wide it gets: plain mathematics. -/
namespace Go.Proofs.YtigiblhmhmgagaaGreat
open Go.Ev
set_option linter.unusedVariables false
/-- incb.row's rounds. -/
def rowGo (w y1 y2 a b : Nat) : Nat → Nat → Nat → Nat → Nat → Nat → Option (Nat × Nat × Nat)
  | 0, _, _, _, _, _ => none
  | f + 1, k, t1, t2, a1, a2 => if b ≤ k ∧ t2 < 8 then some (a1, a2 + 64, k) else
    rowGo w y1 y2 a b f (k + 1) (t1 * y1 / 2 ^ w * (a + b + 2 * k) / (a + 2 + 2 * k)) ((t2 * y2 / 2 ^ w + 1) * (a + b + 2 * k) / (a + 2 + 2 * k) + 1)
      (a1 + t1 * y1 / 2 ^ w * (a + b + 2 * k) / (a + 2 + 2 * k)) (a2 + ((t2 * y2 / 2 ^ w + 1) * (a + b + 2 * k) / (a + 2 + 2 * k) + 1))
section
variable {P y1 y2 t1 t2 n m : Nat}
theorem up_half (hP : 200 ≤ P) (hy : 2 * y2 ≤ P + 2) : 100 * (t2 * y2 / P) ≤ 51 * t2 := by
  have h1 := Nat.div_mul_le_self (t2 * y2) P
  have h2 := Nat.mul_le_mul_left t2 hy
  have h3 : t2 * 200 ≤ t2 * P := Nat.mul_le_mul_left _ hP
  have h4 : 100 * (t2 * y2 / P) * P ≤ 51 * t2 * P := by
    have e1 : 100 * (t2 * y2 / P) * P = 100 * (t2 * y2 / P * P) := by rw [Nat.mul_assoc]
    have e2 : t2 * (2 * y2) = 2 * (t2 * y2) := by rw [Nat.mul_left_comm]
    have e3 : t2 * (P + 2) = t2 * P + 2 * t2 := by rw [Nat.mul_add]; omega
    have e4 : 51 * t2 * P = 51 * (t2 * P) := by rw [Nat.mul_assoc]
    omega
  exact Nat.le_of_mul_le_mul_right h4 (by omega)
/-- A quotient times a number is not above what it came from. -/
theorem quo_le {v n m c d : Nat} (hm : 0 < m) (h : d * n ≤ c * m) : d * (v * n / m) ≤ c * v := by
  have h1 := Nat.div_mul_le_self (v * n) m
  have h2 : d * (v * n / m) * m ≤ c * v * m := by
    have e1 : d * (v * n / m) * m = d * (v * n / m * m) := by rw [Nat.mul_assoc]
    have e2 : d * (v * n) = v * (d * n) := by rw [Nat.mul_left_comm]
    have e3 : c * v * m = v * (c * m) := by rw [Nat.mul_assoc, Nat.mul_left_comm]
    have h3 := Nat.mul_le_mul_left v h
    have h4 := Nat.mul_le_mul_left d h1
    omega
  exact Nat.le_of_mul_le_mul_right h2 hm
theorem quo_sub {v1 v2 n m : Nat} (h : v1 ≤ v2) (hm : 0 < m) : v2 * n / m ≤ v1 * n / m + (v2 - v1) * n / m + 1 := by
  have h1 := Nat.div_add_mod (v1 * n) m
  have h2 := Nat.div_add_mod ((v2 - v1) * n) m
  have m1 := Nat.mod_lt (v1 * n) hm
  have m2 := Nat.mod_lt ((v2 - v1) * n) hm
  have e : v2 * n = v1 * n + (v2 - v1) * n := by rw [← Nat.add_mul]; congr 1; omega
  have h3 : v2 * n < (v1 * n / m + (v2 - v1) * n / m + 2) * m := by
    rw [Nat.add_mul, Nat.add_mul, Nat.mul_comm _ m, Nat.mul_comm _ m]
    omega
  have := (Nat.div_lt_iff_lt_mul hm).2 h3
  omega
end
section
variable {w y1 y2 a b : Nat}
/-- Late terms fall by a fifth. -/
theorem late_step {k t2 : Nat} (hP : 200 ≤ 2 ^ w) (hy : 2 * y2 ≤ 2 ^ w + 2) (ha : 1 ≤ a) (hb : b ≤ 20) (hk : 200 ≤ k) (ht : 8 ≤ t2) : 5 * ((t2 * y2 / 2 ^ w + 1) * (a + b + 2 * k) / (a + 2 + 2 * k) + 1) ≤ 4 * t2 := by
  have h1 := up_half (t2 := t2) hP hy
  have h2 := quo_le (v := t2 * y2 / 2 ^ w + 1) (n := a + b + 2 * k) (m := a + 2 + 2 * k) (c := 21) (d := 20) (by omega) (by omega)
  omega
theorem row_late (hP : 200 ≤ 2 ^ w) (hy : 2 * y2 ≤ 2 ^ w + 2) (ha : 1 ≤ a) (hb : b ≤ 20) : ∀ (f k t1 t2 a1 a2 : Nat), 200 ≤ k → 4 ^ f * t2 < 8 * 5 ^ f → ∃ A B K, rowGo w y1 y2 a b (f + 1) k t1 t2 a1 a2 = some (A, B, K) ∧ K ≤ k + f := by
  intro f
  induction f with
  | zero =>
    intro k t1 t2 a1 a2 hk h
    refine ⟨a1, a2 + 64, k, ?_, by omega⟩
    rw [rowGo, if_pos ⟨by omega, by omega⟩]
  | succ f ih =>
    intro k t1 t2 a1 a2 hk h
    rw [rowGo]
    by_cases hs : b ≤ k ∧ t2 < 8
    · rw [if_pos hs]
      exact ⟨_, _, _, rfl, by omega⟩
    · rw [if_neg hs]
      have h1 := late_step (k := k) (t2 := t2) hP hy ha hb hk (by omega)
      obtain ⟨A, B, K, g1, g2⟩ := ih (k + 1) (t1 * y1 / 2 ^ w * (a + b + 2 * k) / (a + 2 + 2 * k)) ((t2 * y2 / 2 ^ w + 1) * (a + b + 2 * k) / (a + 2 + 2 * k) + 1) (a1 + t1 * y1 / 2 ^ w * (a + b + 2 * k) / (a + 2 + 2 * k)) (a2 + ((t2 * y2 / 2 ^ w + 1) * (a + b + 2 * k) / (a + 2 + 2 * k) + 1)) (by omega) (by
        rw [Nat.pow_succ, Nat.pow_succ] at h
        generalize (t2 * y2 / 2 ^ w + 1) * (a + b + 2 * k) / (a + 2 + 2 * k) + 1 = u at *
        have h2 := Nat.mul_le_mul_left (4 ^ f) h1
        have e1 : 4 ^ f * (5 * u) = 5 * (4 ^ f * u) := Nat.mul_left_comm _ _ _
        have e2 : 4 ^ f * (4 * t2) = 4 ^ f * 4 * t2 := by rw [Nat.mul_assoc]
        omega)
      exact ⟨A, B, K, g1, by omega⟩
/-- An early step grows less than fourfold. -/
theorem early_up {k t2 T : Nat} (hP : 200 ≤ 2 ^ w) (hy : 2 * y2 ≤ 2 ^ w + 2) (ha : 1 ≤ a) (hb : b ≤ 20) (ht : t2 ≤ T) (hT : 100 ≤ T) : (t2 * y2 / 2 ^ w + 1) * (a + b + 2 * k) / (a + 2 + 2 * k) + 1 ≤ 4 * T := by
  have h1 := up_half (t2 := t2) hP hy
  have h2 := quo_le (v := t2 * y2 / 2 ^ w + 1) (n := a + b + 2 * k) (m := a + 2 + 2 * k) (c := 7) (d := 1) (by omega) (by omega)
  omega
theorem mid_up {k t2 T : Nat} (hP : 200 ≤ 2 ^ w) (hy : 2 * y2 ≤ 2 ^ w + 2) (ha : 1 ≤ a) (hk : b ≤ k) (ht : t2 ≤ T) (hT : 100 ≤ T) : (t2 * y2 / 2 ^ w + 1) * (a + b + 2 * k) / (a + 2 + 2 * k) + 1 ≤ T := by
  have h1 := up_half (t2 := t2) hP hy
  have h2 := quo_le (v := t2 * y2 / 2 ^ w + 1) (n := a + b + 2 * k) (m := a + 2 + 2 * k) (c := 3) (d := 2) (by omega) (by omega)
  omega
/-- How far apart a term's ends get in a step. -/
theorem gap_step {k t1 t2 C : Nat} (hP : 200 ≤ 2 ^ w) (hy12 : y2 = y1 + 1) (hy1 : 2 * y1 ≤ 2 ^ w) (ht : t1 ≤ t2) (hC : t2 ≤ C * 2 ^ w) : t2 * y2 / 2 ^ w + 1 ≤ t1 * y1 / 2 ^ w + ((t2 - t1) / 2 + C + 4) := by
  subst hy12
  generalize 2 ^ w = P at *
  have e : t2 * (y1 + 1) = t1 * y1 + ((t2 - t1) * y1 + t2) := by
    have : t2 * y1 = t1 * y1 + (t2 - t1) * y1 := by rw [← Nat.add_mul]; congr 1; omega
    rw [Nat.mul_add]; omega
  have d1 := Nat.div_add_mod (t1 * y1) P
  have d2 := Nat.mod_lt (t1 * y1) (show 0 < P by omega)
  have h1 : (t2 - t1) * y1 ≤ ((t2 - t1) / 2 + 1) * P := by
    have h3 := Nat.mul_le_mul (show t2 - t1 ≤ 2 * ((t2 - t1) / 2 + 1) by omega) (Nat.le_refl y1)
    have h4 := Nat.mul_le_mul_left ((t2 - t1) / 2 + 1) hy1
    have e5 : 2 * ((t2 - t1) / 2 + 1) * y1 = ((t2 - t1) / 2 + 1) * (2 * y1) := by rw [Nat.mul_comm 2, Nat.mul_assoc]
    omega
  have h2 : t2 * (y1 + 1) < (t1 * y1 / P + ((t2 - t1) / 2 + C + 3)) * P := by
    have e6 : (t1 * y1 / P + ((t2 - t1) / 2 + C + 3)) * P = P * (t1 * y1 / P) + ((t2 - t1) / 2 + 1) * P + C * P + 2 * P := by
      have : (t2 - t1) / 2 + C + 3 = ((t2 - t1) / 2 + 1) + C + 2 := by omega
      rw [this]; simp only [Nat.add_mul]; rw [Nat.mul_comm _ P]; omega
    omega
  have := (Nat.div_lt_iff_lt_mul (show 0 < P by omega)).2 h2
  omega
theorem gap_quo {k v1 v2 D : Nat} (hv : v1 ≤ v2) (hm : 0 < a + 2 + 2 * k) {c d : Nat} (hd : 0 < d) (h : d * (a + b + 2 * k) ≤ c * (a + 2 + 2 * k)) (hD : v2 ≤ v1 + D) : d * (v2 * (a + b + 2 * k) / (a + 2 + 2 * k) + 1) ≤ d * (v1 * (a + b + 2 * k) / (a + 2 + 2 * k)) + c * D + 2 * d := by
  have h1 := quo_sub (n := a + b + 2 * k) (m := a + 2 + 2 * k) hv hm
  have h2 := quo_le (v := v2 - v1) hm h
  have h3 : c * (v2 - v1) ≤ c * D := Nat.mul_le_mul_left _ (by omega)
  generalize v2 * (a + b + 2 * k) / (a + 2 + 2 * k) = q2 at *
  generalize v1 * (a + b + 2 * k) / (a + 2 + 2 * k) = q1 at *
  generalize (v2 - v1) * (a + b + 2 * k) / (a + 2 + 2 * k) = q3 at *
  have h4 := Nat.mul_le_mul_left d h1
  have e1 : d * (q1 + q3 + 1) = d * q1 + d * q3 + d := by rw [Nat.mul_add, Nat.mul_add, Nat.mul_one]
  have e2 : d * (q2 + 1) = d * q2 + d := by rw [Nat.mul_add, Nat.mul_one]
  omega
/-- Terms, and what they sum to, in a row's first rounds and in its later ones. -/
def okT (w k t1 t2 a1 a2 T D : Nat) : Prop := t1 ≤ t2 ∧ a1 ≤ a2 ∧ t2 ≤ T ∧ t2 ≤ t1 + D ∧ a2 ≤ a1 + k * D + D ∧ a2 ≤ (k + 1) * T
theorem okT_early {k t1 t2 a1 a2 T D C : Nat} (hP : 200 ≤ 2 ^ w) (hy12 : y2 = y1 + 1) (hy1 : 2 * y1 ≤ 2 ^ w) (ha : 1 ≤ a) (hb : b ≤ 20) (hT : 100 ≤ T) (hC : T ≤ C * 2 ^ w) (hD : 14 * C + 62 ≤ D) (h : okT w k t1 t2 a1 a2 T D) :
    okT w (k + 1) (t1 * y1 / 2 ^ w * (a + b + 2 * k) / (a + 2 + 2 * k)) ((t2 * y2 / 2 ^ w + 1) * (a + b + 2 * k) / (a + 2 + 2 * k) + 1)
      (a1 + t1 * y1 / 2 ^ w * (a + b + 2 * k) / (a + 2 + 2 * k)) (a2 + ((t2 * y2 / 2 ^ w + 1) * (a + b + 2 * k) / (a + 2 + 2 * k) + 1)) (4 * T) (4 * D) := by
  obtain ⟨h1, h2, h3, h4, h5, h6⟩ := h
  have u := early_up (k := k) hP (show 2 * y2 ≤ 2 ^ w + 2 by omega) ha hb h3 hT
  have g := gap_step (k := k) hP hy12 hy1 h1 (Nat.le_trans h3 hC)
  have v12 : t1 * y1 / 2 ^ w ≤ t2 * y2 / 2 ^ w + 1 := Nat.le_succ_of_le (Nat.div_le_div_right (Nat.mul_le_mul h1 (by omega)))
  have q := gap_quo (a := a) (b := b) (k := k) (c := 7) (d := 1) v12 (by omega) (by omega) (by omega) g
  have q0 : t1 * y1 / 2 ^ w * (a + b + 2 * k) / (a + 2 + 2 * k) ≤ (t2 * y2 / 2 ^ w + 1) * (a + b + 2 * k) / (a + 2 + 2 * k) := Nat.div_le_div_right (Nat.mul_le_mul_right _ v12)
  generalize t1 * y1 / 2 ^ w * (a + b + 2 * k) / (a + 2 + 2 * k) = u1 at *
  generalize (t2 * y2 / 2 ^ w + 1) * (a + b + 2 * k) / (a + 2 + 2 * k) = u2 at *
  have e1 : (k + 1) * (4 * D) = 4 * (k * D) + 4 * D := by rw [Nat.add_mul, Nat.mul_left_comm]; omega
  have e2 : (k + 1 + 1) * (4 * T) = 4 * ((k + 1) * T) + 4 * T := by rw [Nat.add_mul, Nat.mul_left_comm]; omega
  have e3 : (k + 1) * T = k * T + T := by rw [Nat.add_mul]; omega
  refine ⟨?_, ?_, ?_, ?_, ?_, ?_⟩ <;> omega
theorem okT_mid {k t1 t2 a1 a2 T D C : Nat} (hP : 200 ≤ 2 ^ w) (hy12 : y2 = y1 + 1) (hy1 : 2 * y1 ≤ 2 ^ w) (ha : 1 ≤ a) (hk : b ≤ k) (hT : 100 ≤ T) (hC : T ≤ C * 2 ^ w) (hD : 14 * C + 62 ≤ D) (h : okT w k t1 t2 a1 a2 T D) :
    okT w (k + 1) (t1 * y1 / 2 ^ w * (a + b + 2 * k) / (a + 2 + 2 * k)) ((t2 * y2 / 2 ^ w + 1) * (a + b + 2 * k) / (a + 2 + 2 * k) + 1)
      (a1 + t1 * y1 / 2 ^ w * (a + b + 2 * k) / (a + 2 + 2 * k)) (a2 + ((t2 * y2 / 2 ^ w + 1) * (a + b + 2 * k) / (a + 2 + 2 * k) + 1)) T D := by
  obtain ⟨h1, h2, h3, h4, h5, h6⟩ := h
  have u := mid_up (k := k) hP (show 2 * y2 ≤ 2 ^ w + 2 by omega) ha hk h3 hT
  have g := gap_step (k := k) hP hy12 hy1 h1 (Nat.le_trans h3 hC)
  have v12 : t1 * y1 / 2 ^ w ≤ t2 * y2 / 2 ^ w + 1 := Nat.le_succ_of_le (Nat.div_le_div_right (Nat.mul_le_mul h1 (by omega)))
  have q := gap_quo (a := a) (b := b) (k := k) (c := 3) (d := 2) v12 (by omega) (by omega) (by omega) g
  have q0 : t1 * y1 / 2 ^ w * (a + b + 2 * k) / (a + 2 + 2 * k) ≤ (t2 * y2 / 2 ^ w + 1) * (a + b + 2 * k) / (a + 2 + 2 * k) := Nat.div_le_div_right (Nat.mul_le_mul_right _ v12)
  generalize t1 * y1 / 2 ^ w * (a + b + 2 * k) / (a + 2 + 2 * k) = u1 at *
  generalize (t2 * y2 / 2 ^ w + 1) * (a + b + 2 * k) / (a + 2 + 2 * k) = u2 at *
  have e1 : (k + 1) * D = k * D + D := by rw [Nat.add_mul]; omega
  have e2 : (k + 1 + 1) * T = (k + 1) * T + T := by rw [Nat.add_mul]; omega
  refine ⟨?_, ?_, ?_, ?_, ?_, ?_⟩ <;> omega
/-- The row ends; and what it ends in. -/
theorem row_mid {C T D : Nat} (hP : 200 ≤ 2 ^ w) (hy12 : y2 = y1 + 1) (hy1 : 2 * y1 ≤ 2 ^ w) (ha : 1 ≤ a) (hb : b ≤ 20) (hT : 100 ≤ T) (hC : T ≤ C * 2 ^ w) (hD : 14 * C + 62 ≤ D) {F : Nat} (hF : 4 ^ F * T < 8 * 5 ^ F) :
    ∀ (g k t1 t2 a1 a2 : Nat), b ≤ k → g + k = 200 → okT w k t1 t2 a1 a2 T D → ∃ A B K, rowGo w y1 y2 a b (g + F + 1) k t1 t2 a1 a2 = some (A, B, K) := by
  intro g
  induction g with
  | zero =>
    intro k t1 t2 a1 a2 hk hg h
    obtain ⟨A, B, K, e, -⟩ := row_late hP (show 2 * y2 ≤ 2 ^ w + 2 by omega) ha hb F k t1 t2 a1 a2 (by omega) (Nat.lt_of_le_of_lt (Nat.mul_le_mul_left _ h.2.2.1) hF)
    exact ⟨A, B, K, by rw [Nat.zero_add]; exact e⟩
  | succ g ih =>
    intro k t1 t2 a1 a2 hk hg h
    rw [show g + 1 + F + 1 = (g + F + 1) + 1 by omega, rowGo]
    by_cases hs : b ≤ k ∧ t2 < 8
    · rw [if_pos hs]; exact ⟨_, _, _, rfl⟩
    · rw [if_neg hs]
      exact ih _ _ _ _ _ (by omega) (by omega) (okT_mid hP hy12 hy1 ha hk hT hC hD h)
theorem row_early {C F : Nat} (hP : 200 ≤ 2 ^ w) (hy12 : y2 = y1 + 1) (hy1 : 2 * y1 ≤ 2 ^ w) (ha : 1 ≤ a) (hb : b ≤ 20) :
    ∀ (g k t1 t2 a1 a2 T D : Nat), k + g = b → 100 ≤ T → 4 ^ g * T ≤ C * 2 ^ w → 14 * C + 62 ≤ D → 4 ^ F * (4 ^ g * T) < 8 * 5 ^ F → okT w k t1 t2 a1 a2 T D → ∃ A B K, rowGo w y1 y2 a b (200 + F + 1 - k) k t1 t2 a1 a2 = some (A, B, K) := by
  intro g
  induction g with
  | zero =>
    intro k t1 t2 a1 a2 T D hk hT hC hD hF h
    rw [Nat.pow_zero, Nat.one_mul] at hC hF
    have := row_mid hP hy12 hy1 ha hb hT hC hD hF (200 - k) k t1 t2 a1 a2 (by omega) (by omega) h
    rw [show 200 - k + F + 1 = 200 + F + 1 - k by omega] at this
    exact this
  | succ g ih =>
    intro k t1 t2 a1 a2 T D hk hT hC hD hF h
    rw [show 200 + F + 1 - k = (200 + F + 1 - (k + 1)) + 1 by omega, rowGo, if_neg (by omega)]
    have hp : 1 ≤ 4 ^ (g + 1) := Nat.pow_pos (by omega)
    have hTC : T ≤ C * 2 ^ w := Nat.le_trans (Nat.le_mul_of_pos_left T hp) hC
    have hp2 : 4 ^ g * (4 * T) = 4 ^ (g + 1) * T := by rw [Nat.pow_succ, Nat.mul_assoc]
    exact ih (k + 1) _ _ _ _ (4 * T) (4 * D) (by omega) (by omega) (by rw [hp2]; exact hC) (by omega) (by rw [hp2]; exact hF) (okT_early hP hy12 hy1 ha hb hT hTC hD h)
end
end Go.Proofs.YtigiblhmhmgagaaGreat

/- The row of beta's share: what it ends in, what lies in it; powers: plain mathematics. -/
namespace Go.Proofs.YtigiblhmhmgagaaGreat
open Go.Ev
set_option linter.unusedVariables false
section
variable {w y1 y2 a b T D C : Nat}
def okK (w b T D k t1 t2 a1 a2 : Nat) : Prop := okT w k t1 t2 a1 a2 (4 ^ min k b * T) (4 ^ min k b * D)
theorem four_le {k b T : Nat} : T ≤ 4 ^ min k b * T ∧ 4 ^ min k b * T ≤ 4 ^ b * T :=
  ⟨Nat.le_mul_of_pos_left T (Nat.pow_pos (by omega)), Nat.mul_le_mul_right T (Nat.pow_le_pow_right (by omega) (Nat.min_le_right k b))⟩
theorem okK_step {k t1 t2 a1 a2 : Nat} (hP : 200 ≤ 2 ^ w) (hy12 : y2 = y1 + 1) (hy1 : 2 * y1 ≤ 2 ^ w) (ha : 1 ≤ a) (hb : b ≤ 20) (hT : 100 ≤ T) (hC : 4 ^ b * T ≤ C * 2 ^ w) (hD : 14 * C + 62 ≤ D) (h : okK w b T D k t1 t2 a1 a2) :
    okK w b T D (k + 1) (t1 * y1 / 2 ^ w * (a + b + 2 * k) / (a + 2 + 2 * k)) ((t2 * y2 / 2 ^ w + 1) * (a + b + 2 * k) / (a + 2 + 2 * k) + 1)
      (a1 + t1 * y1 / 2 ^ w * (a + b + 2 * k) / (a + 2 + 2 * k)) (a2 + ((t2 * y2 / 2 ^ w + 1) * (a + b + 2 * k) / (a + 2 + 2 * k) + 1)) := by
  have f1 := four_le (k := k) (b := b) (T := T)
  have f2 := four_le (k := k) (b := b) (T := D)
  unfold okK at h ⊢
  by_cases hk : b ≤ k
  · rw [Nat.min_eq_right (show b ≤ k + 1 by omega)]
    rw [Nat.min_eq_right hk] at h f1 f2
    exact okT_mid hP hy12 hy1 ha hk (by omega) hC (by omega) h
  · rw [Nat.min_eq_left (show k + 1 ≤ b by omega), show 4 ^ (k + 1) * T = 4 * (4 ^ k * T) by rw [Nat.pow_succ, Nat.mul_comm (4 ^ k) 4, Nat.mul_assoc], show 4 ^ (k + 1) * D = 4 * (4 ^ k * D) by rw [Nat.pow_succ, Nat.mul_comm (4 ^ k) 4, Nat.mul_assoc]]
    rw [Nat.min_eq_left (show k ≤ b by omega)] at h f1 f2
    exact okT_early hP hy12 hy1 ha hb (by omega) (Nat.le_trans f1.2 hC) (by omega) h
theorem row_inv (hP : 200 ≤ 2 ^ w) (hy12 : y2 = y1 + 1) (hy1 : 2 * y1 ≤ 2 ^ w) (ha : 1 ≤ a) (hb : b ≤ 20) (hT : 100 ≤ T) (hC : 4 ^ b * T ≤ C * 2 ^ w) (hD : 14 * C + 62 ≤ D) :
    ∀ (f k t1 t2 a1 a2 : Nat) {A B K : Nat}, rowGo w y1 y2 a b f k t1 t2 a1 a2 = some (A, B, K) → okK w b T D k t1 t2 a1 a2 → K < k + f ∧ A ≤ B ∧ B ≤ A + (K + 1) * (4 ^ b * D) + 64 ∧ B ≤ (K + 1) * (4 ^ b * T) + 64 := by
  intro f
  induction f with
  | zero => intro k t1 t2 a1 a2 A B K h; simp only [rowGo] at h; cases h
  | succ f ih =>
    intro k t1 t2 a1 a2 A B K h ho
    rw [rowGo] at h
    by_cases hs : b ≤ k ∧ t2 < 8
    · rw [if_pos hs] at h
      simp only [Option.some.injEq, Prod.mk.injEq] at h
      obtain ⟨rfl, rfl, rfl⟩ := h
      obtain ⟨h1, h2, h3, h4, h5, h6⟩ := ho
      rw [Nat.min_eq_right hs.1] at h5 h6
      rw [Nat.add_mul, Nat.one_mul]
      rw [Nat.add_mul, Nat.one_mul] at h6
      rw [Nat.add_mul, Nat.one_mul]
      omega
    · rw [if_neg hs] at h
      have := ih _ _ _ _ _ h (okK_step hP hy12 hy1 ha hb hT hC hD ho)
      omega
/-- A term by the first one. -/
def rR (x : Rat) (a b : Nat) : Nat → Rat
  | 0 => 1
  | k + 1 => rR x a b k * x * ((a + b + 2 * k : Nat) : Rat) / ((a + 2 + 2 * k : Nat) : Rat)
/-- Terms' sum by the first one. -/
def sR (x : Rat) (a b : Nat) : Nat → Rat
  | 0 => 1
  | k + 1 => sR x a b k + rR x a b (k + 1)
theorem row_enc {x c : Rat} (hx : Enc w y1 y2 x) : ∀ (f k t1 t2 a1 a2 : Nat) {A B K : Nat}, rowGo w y1 y2 a b f k t1 t2 a1 a2 = some (A, B, K) → Enc w t1 t2 (c * rR x a b k) → Enc w a1 a2 (c * sR x a b k) →
    b ≤ K ∧ (A : Rat) ≤ c * sR x a b K * p2 w ∧ c * sR x a b K * p2 w + 64 ≤ (B : Rat) ∧ c * rR x a b K * p2 w ≤ 8 := by
  intro f
  induction f with
  | zero => intro k t1 t2 a1 a2 A B K h; simp only [rowGo] at h; cases h
  | succ f ih =>
    intro k t1 t2 a1 a2 A B K h ht ha
    rw [rowGo] at h
    by_cases hs : b ≤ k ∧ t2 < 8
    · rw [if_pos hs] at h
      simp only [Option.some.injEq, Prod.mk.injEq] at h
      obtain ⟨rfl, rfl, rfl⟩ := h
      refine ⟨hs.1, ha.1, ?_, ?_⟩
      · have h1 := ha.2
        have h2 : ((a2 + 64 : Nat) : Rat) = (a2 : Rat) + 64 := by exact_mod_cast rfl
        rw [h2]
        grind
      · have h1 := ht.2
        have h2 : (t2 : Rat) ≤ ((8 : Nat) : Rat) := (show ((t2 : Nat) : Rat) ≤ ((8 : Nat) : Rat) by exact_mod_cast (show t2 ≤ 8 by omega))
        exact Rat.le_trans h1 h2
    · rw [if_neg hs] at h
      have m := enc_times (n := a + b + 2 * k) (d := a + 2 + 2 * k) (by omega) (enc_mul ht hx)
      have e : c * rR x a b k * x * ((a + b + 2 * k : Nat) : Rat) / ((a + 2 + 2 * k : Nat) : Rat) = c * rR x a b (k + 1) := by
        show _ = c * (rR x a b k * x * ((a + b + 2 * k : Nat) : Rat) / ((a + 2 + 2 * k : Nat) : Rat))
        rw [Rat.div_def, Rat.div_def]
        grind
      rw [e] at m
      have s := enc_add ha m
      have e2 : c * sR x a b k + c * rR x a b (k + 1) = c * sR x a b (k + 1) := by
        show _ = c * (sR x a b k + rR x a b (k + 1))
        grind
      rw [e2] at s
      exact ih _ _ _ _ _ h m s
end
/-- A number so many times by itself. -/
def pwR (q : Rat) : Nat → Rat
  | 0 => 1
  | n + 1 => pwR q n * q
theorem pwR_two (q : Rat) (n : Nat) : pwR (q * q) n = pwR q (2 * n) := by
  induction n with
  | zero => rfl
  | succ n ih =>
    show pwR (q * q) n * (q * q) = pwR q (2 * n) * q * q
    rw [ih]; grind
/-- fix.Power's rounds. -/
def powGo (w : Nat) : Nat → Nat → Nat → Nat → Nat → Nat → Nat × Nat
  | 0, _, l1, l2, _, _ => (l1, l2)
  | f + 1, n, l1, l2, a1, a2 => if n = 0 then (l1, l2) else
    if n % 2 = 1 then powGo w f (n / 2) (l1 * a1 / 2 ^ w) (l2 * a2 / 2 ^ w + 1) (a1 * a1 / 2 ^ w) (a2 * a2 / 2 ^ w + 1)
    else powGo w f (n / 2) l1 l2 (a1 * a1 / 2 ^ w) (a2 * a2 / 2 ^ w + 1)
theorem powGo_zero (w f l1 l2 a1 a2 : Nat) : powGo w f 0 l1 l2 a1 a2 = (l1, l2) := by cases f <;> rfl
theorem powGo_enc {w : Nat} : ∀ (f n l1 l2 a1 a2 : Nat) {p q : Rat}, n < 2 ^ f → Enc w l1 l2 p → Enc w a1 a2 q → Enc w (powGo w f n l1 l2 a1 a2).1 (powGo w f n l1 l2 a1 a2).2 (p * pwR q n) := by
  intro f
  induction f with
  | zero =>
    intro n l1 l2 a1 a2 p q hn hl ha
    obtain rfl : n = 0 := by omega
    rw [powGo_zero]
    show Enc w l1 l2 (p * 1)
    rw [Rat.mul_one]; exact hl
  | succ f ih =>
    intro n l1 l2 a1 a2 p q hn hl ha
    rw [Nat.pow_succ] at hn
    rw [powGo]
    by_cases h0 : n = 0
    · subst h0
      rw [if_pos rfl]
      show Enc w l1 l2 (p * 1)
      rw [Rat.mul_one]; exact hl
    · rw [if_neg h0]
      by_cases h1 : n % 2 = 1
      · rw [if_pos h1]
        have := ih (n / 2) _ _ _ _ (by omega) (enc_mul hl ha) (enc_mul ha ha)
        rw [pwR_two] at this
        have e : pwR q n = pwR q (2 * (n / 2)) * q := by
          conv => lhs; rw [show n = 2 * (n / 2) + 1 by omega]
          rfl
        rw [e]
        have e2 : p * q * pwR q (2 * (n / 2)) = p * (pwR q (2 * (n / 2)) * q) := by grind
        rw [e2] at this
        exact this
      · rw [if_neg h1]
        have := ih (n / 2) _ _ _ _ (by omega) hl (enc_mul ha ha)
        rw [pwR_two, show 2 * (n / 2) = n by omega] at this
        exact this
/-- A number that is at most a little above 1, known up to a little. -/
def okS (P a b e : Nat) : Prop := a ≤ b ∧ b ≤ a + e ∧ b ≤ P + e
theorem okS_mul {P a b c d e g : Nat} (hP : 1000000 ≤ P) (he : e ≤ 1000) (hg : g ≤ 1000) (h : okS P a b e) (h2 : okS P c d g) : okS P (a * c / P) (b * d / P + 1) (2 * (e + g) + 2) := by
  obtain ⟨h1, h3, h4⟩ := h
  obtain ⟨k1, k3, k4⟩ := h2
  have hP0 : 0 < P := by omega
  have m1 := Nat.mul_le_mul h1 k1
  refine ⟨Nat.le_succ_of_le (Nat.div_le_div_right m1), ?_, ?_⟩
  · -- the gap
    have d1 := Nat.div_add_mod (a * c) P
    have d2 := Nat.mod_lt (a * c) hP0
    have e1 : b * d ≤ a * c + (e * d + b * g) := by
      have x1 : b * d ≤ (a + e) * d := Nat.mul_le_mul_right d h3
      have x2 : a * d ≤ a * (c + g) := Nat.mul_le_mul_left a k3
      have x3 : a * g ≤ b * g := Nat.mul_le_mul_right g h1
      rw [Nat.add_mul] at x1
      rw [Nat.mul_add] at x2
      omega
    have e2 : e * d ≤ e * (2 * P) := Nat.mul_le_mul_left e (by omega)
    have e3 : b * g ≤ 2 * P * g := Nat.mul_le_mul_right g (by omega)
    have e4 : b * d < (a * c / P + (2 * (e + g) + 2)) * P := by
      have y1 : (a * c / P + (2 * (e + g) + 2)) * P = P * (a * c / P) + (e * (2 * P) + 2 * P * g + 2 * P) := by
        rw [Nat.add_mul, Nat.mul_comm _ P]
        congr 1
        grind
      omega
    have := (Nat.div_lt_iff_lt_mul hP0).2 e4
    omega
  · have e1 : b * d ≤ (P + e) * (P + g) := Nat.mul_le_mul h4 k4
    have e2 : (P + e) * (P + g) = P * P + (e + g) * P + e * g := by grind
    have e3 : e * g ≤ 1000 * 1000 := Nat.mul_le_mul he hg
    have e4 : b * d < (P + (e + g) + 2) * P := by
      have : (P + (e + g) + 2) * P = P * P + (e + g) * P + 2 * P := by rw [Nat.add_mul, Nat.add_mul]
      omega
    have := (Nat.div_lt_iff_lt_mul hP0).2 e4
    omega
theorem okS_mono {P a b e g : Nat} (h : okS P a b e) (hg : e ≤ g) : okS P a b g := ⟨h.1, Nat.le_trans h.2.1 (by omega), Nat.le_trans h.2.2 (by omega)⟩
theorem powGo_ok {w : Nat} (hP : 1000000 ≤ 2 ^ w) : ∀ (f n l1 l2 a1 a2 E : Nat), (E + 1) * 4 ^ f ≤ 512 → okS (2 ^ w) l1 l2 E → okS (2 ^ w) a1 a2 E → okS (2 ^ w) (powGo w f n l1 l2 a1 a2).1 (powGo w f n l1 l2 a1 a2).2 511 := by
  intro f
  induction f with
  | zero =>
    intro n l1 l2 a1 a2 E hE hl ha
    rw [Nat.pow_zero] at hE
    exact okS_mono hl (by omega)
  | succ f ih =>
    intro n l1 l2 a1 a2 E hE hl ha
    have hp : 1 ≤ 4 ^ f := Nat.pow_pos (by omega)
    rw [Nat.pow_succ] at hE
    have hE2 : (4 * E + 2 + 1) * 4 ^ f ≤ 512 := Nat.le_trans (Nat.mul_le_mul_right _ (show 4 * E + 2 + 1 ≤ (E + 1) * 4 by omega)) (by rw [Nat.mul_assoc, Nat.mul_comm 4]; exact hE)
    have hE1 : E ≤ 1000 := by
      have := Nat.le_mul_of_pos_right (E + 1) (show 0 < 4 ^ f * 4 by omega)
      omega
    have sq := okS_mul hP hE1 hE1 ha ha
    have ml := okS_mul hP hE1 hE1 hl ha
    rw [show 2 * (E + E) + 2 = 4 * E + 2 by omega] at sq ml
    rw [powGo]
    by_cases h0 : n = 0
    · rw [if_pos h0]
      exact okS_mono hl (by have := Nat.le_mul_of_pos_right (E + 1) (show 0 < 4 ^ f * 4 by omega); omega)
    · rw [if_neg h0]
      by_cases h1 : n % 2 = 1
      · rw [if_pos h1]
        exact ih _ _ _ _ _ _ hE2 ml sq
      · rw [if_neg h1]
        exact ih _ _ _ _ _ _ hE2 (okS_mono hl (by omega)) sq
end Go.Proofs.YtigiblhmhmgagaaGreat

/- The row's sum: it rises, and what is left out is at most three times the last term: plain mathematics. -/
namespace Go.Proofs.YtigiblhmhmgagaaGreat
open Go.Ev
set_option linter.unusedVariables false
section
variable {x : Rat} {a b : Nat}
theorem rR_step (k : Nat) : rR x a b (k + 1) * ((a + 2 + 2 * k : Nat) : Rat) = rR x a b k * x * ((a + b + 2 * k : Nat) : Rat) := by
  have M : (0 : Rat) < ((a + 2 + 2 * k : Nat) : Rat) := by exact_mod_cast (show 0 < a + 2 + 2 * k by omega)
  show rR x a b k * x * ((a + b + 2 * k : Nat) : Rat) / ((a + 2 + 2 * k : Nat) : Rat) * _ = _
  exact Rat.div_mul_cancel (by grind)
theorem rR_nn (h : 0 ≤ x) : ∀ k, 0 ≤ rR x a b k := by
  intro k
  induction k with
  | zero => show (0 : Rat) ≤ 1; decide
  | succ k ih =>
    have M : (0 : Rat) < ((a + 2 + 2 * k : Nat) : Rat) := by exact_mod_cast (show 0 < a + 2 + 2 * k by omega)
    have e := rR_step (x := x) (a := a) (b := b) k
    refine le_by M ?_
    rw [e, Rat.zero_mul]
    exact Rat.mul_nonneg (Rat.mul_nonneg ih h) (nat_nonneg _)
theorem rR_fall (h : 0 ≤ x) (h1 : x + x ≤ 1) {k : Nat} (hk : b ≤ k) : 4 * rR x a b (k + 1) ≤ 3 * rR x a b k := by
  have M : (0 : Rat) < ((a + 2 + 2 * k : Nat) : Rat) := by exact_mod_cast (show 0 < a + 2 + 2 * k by omega)
  have e := rR_step (x := x) (a := a) (b := b) k
  have r0 := rR_nn (a := a) (b := b) h k
  have hn : ((2 * (a + b + 2 * k) : Nat) : Rat) ≤ ((3 * (a + 2 + 2 * k) : Nat) : Rat) := by exact_mod_cast (show 2 * (a + b + 2 * k) ≤ 3 * (a + 2 + 2 * k) by omega)
  have c1 : ((2 * (a + b + 2 * k) : Nat) : Rat) = 2 * ((a + b + 2 * k : Nat) : Rat) := by exact_mod_cast rfl
  have c2 : ((3 * (a + 2 + 2 * k) : Nat) : Rat) = 3 * ((a + 2 + 2 * k : Nat) : Rat) := by exact_mod_cast rfl
  rw [c1, c2] at hn
  have n0 := nat_nonneg (a + b + 2 * k)
  generalize ((a + 2 + 2 * k : Nat) : Rat) = m at *
  generalize ((a + b + 2 * k : Nat) : Rat) = n at *
  generalize rR x a b (k + 1) = r' at *
  generalize rR x a b k = r at *
  refine le_by M ?_
  have k1 : r * (n * (x + x)) ≤ r * (n * 1) := Rat.mul_le_mul_of_nonneg_left (Rat.mul_le_mul_of_nonneg_left h1 n0) r0
  have k2 : r * (2 * n) ≤ r * (3 * m) := Rat.mul_le_mul_of_nonneg_left hn r0
  have e1 : 4 * r' * m = 2 * (r * (n * (x + x))) := by
    have : 4 * r' * m = 4 * (r' * m) := by grind
    rw [this, e]; grind
  rw [e1]
  grind
theorem sR_up (h : 0 ≤ x) {k m : Nat} (hkm : k ≤ m) : sR x a b k ≤ sR x a b m := by
  obtain ⟨j, rfl⟩ := Nat.exists_eq_add_of_le hkm
  clear hkm
  induction j with
  | zero => exact Rat.le_refl
  | succ j ih =>
    have := rR_nn (a := a) (b := b) h (k + j + 1)
    show sR x a b k ≤ sR x a b (k + j) + rR x a b (k + j + 1)
    grind
/-- What is left out behind a late term is at most three times the term. -/
theorem sR_rest (h : 0 ≤ x) (h1 : x + x ≤ 1) {k m : Nat} (hk : b ≤ k) (hkm : k ≤ m) : sR x a b m + 3 * rR x a b m ≤ sR x a b k + 3 * rR x a b k := by
  obtain ⟨j, rfl⟩ := Nat.exists_eq_add_of_le hkm
  clear hkm
  induction j with
  | zero => exact Rat.le_refl
  | succ j ih =>
    have := rR_fall (a := a) h h1 (k := k + j) (show b ≤ k + j by omega)
    show sR x a b (k + j) + rR x a b (k + j + 1) + 3 * rR x a b (k + j + 1) ≤ _
    grind
/-- Any sum is at most a late one and three of its terms. -/
theorem sR_top (h : 0 ≤ x) (h1 : x + x ≤ 1) {k m : Nat} (hk : b ≤ k) : sR x a b m ≤ sR x a b k + 3 * rR x a b k := by
  rcases Nat.le_total m k with g | g
  · have := sR_up (a := a) (b := b) h g
    have := rR_nn (a := a) (b := b) h k
    grind
  · have := sR_rest (a := a) h h1 hk g
    have := rR_nn (a := a) (b := b) h m
    grind
end
end Go.Proofs.YtigiblhmhmgagaaGreat

/- Gamma at halves, ways to choose: plain mathematics, no program. -/
namespace Go.Ev
/-- The product of so many numbers, from one on, each so much more. -/
def prodN (a by' : Nat) : Nat → Nat
  | 0 => 1
  | c + 1 => prodN a by' c * (a + c * by')
theorem prodN_pos {a b : Nat} (ha : 0 < a) : ∀ c, 0 < prodN a b c := by
  intro c
  induction c with
  | zero => exact Nat.one_pos
  | succ c ih => exact Nat.mul_pos ih (by omega)
theorem prodN_len {a b c : Nat} (h : ∀ i, i < c → a + i * b < 4294967296) : (lim (prodN a b c)).length ≤ c + 1 := by
  induction c with
  | zero => exact lim_len_one (show 1 < 4294967296 by decide)
  | succ c ih =>
    have h1 := ih fun i hi => h i (by omega)
    have h2 := lim_len_mul (a := prodN a b c) (b := a + c * b)
    have h3 := lim_len_one (h c (by omega))
    show (lim (prodN a b c * (a + c * b))).length ≤ _
    omega
/-- From the front. -/
theorem prodN_front (a b : Nat) : ∀ c, prodN a b (c + 1) = a * prodN (a + b) b c := by
  intro c
  induction c with
  | zero => simp [prodN]
  | succ c ih =>
    show prodN a b (c + 1) * (a + (c + 1) * b) = a * (prodN (a + b) b c * (a + b + c * b))
    rw [ih, Nat.mul_assoc, Nat.add_mul c 1 b, Nat.one_mul, Nat.add_comm (c * b) b, ← Nat.add_assoc]
/-- Gamma of n by 2, but for the root of pi. -/
def gam2 (n : Nat) : Rat := if n % 2 = 0 then (prodN 2 1 (n / 2 - 2) : Nat) else mkRat (prodN 3 2 ((n - 3) / 2) : Nat) (2 ^ (n / 2))
theorem gam2_step {n : Nat} (hn : 1 ≤ n) : gam2 (n + 2) = gam2 n * mkRat n 2 := by
  unfold gam2
  have e1 : (n + 2) % 2 = n % 2 := by omega
  rw [e1]
  split
  · rename_i h
    obtain ⟨m, rfl⟩ : ∃ m, n = 2 * (m + 1) := ⟨n / 2 - 1, by omega⟩
    have e2 : ((prodN 2 1 ((2 * (m + 1) + 2) / 2 - 2) : Nat)) = prodN 2 1 (2 * (m + 1) / 2 - 2) * (m + 1) := by
      rcases Nat.eq_zero_or_pos m with rfl | h0
      · rfl
      · obtain ⟨k, rfl⟩ : ∃ k, m = k + 1 := ⟨m - 1, by omega⟩
        rw [show (2 * (k + 1 + 1) + 2) / 2 - 2 = k + 1 by omega, show 2 * (k + 1 + 1) / 2 - 2 = k by omega]
        show prodN 2 1 k * (2 + k * 1) = _
        rw [Nat.mul_one, Nat.add_comm 2 k]
    have e3 : mkRat ((2 * (m + 1) : Nat) : Int) 2 = ((m + 1 : Nat) : Rat) := by
      rw [Rat.mkRat_eq_div]
      push_cast
      grind
    rw [e2, e3, Rat.natCast_mul]
  · rename_i h
    obtain ⟨m, rfl⟩ : ∃ m, n = 2 * m + 1 := ⟨n / 2, by omega⟩
    rw [Rat.mkRat_mul_mkRat]
    have e2 : prodN 3 2 ((2 * m + 1 + 2 - 3) / 2) = prodN 3 2 ((2 * m + 1 - 3) / 2) * (2 * m + 1) := by
      rcases Nat.eq_zero_or_pos m with rfl | h0
      · rfl
      · obtain ⟨k, rfl⟩ : ∃ k, m = k + 1 := ⟨m - 1, by omega⟩
        rw [show (2 * (k + 1) + 1 + 2 - 3) / 2 = k + 1 by omega, show (2 * (k + 1) + 1 - 3) / 2 = k by omega]
        show prodN 3 2 k * (3 + k * 2) = _
        congr 1
        omega
    rw [e2, Int.natCast_mul, show (2 * m + 1 + 2) / 2 = (2 * m + 1) / 2 + 1 by omega, Nat.pow_succ]
/-- Ways to choose so many out of so many others and these. -/
def cc : Nat → Nat → Nat
  | 0, _ => 1
  | _ + 1, 0 => 1
  | m + 1, k + 1 => cc m (k + 1) + cc (m + 1) k
theorem cc_zero (m : Nat) : cc m 0 = 1 := by cases m <;> simp [cc]
theorem cc_succ (m k : Nat) : cc (m + 1) (k + 1) = cc m (k + 1) + cc (m + 1) k := by rw [cc]
theorem cc_symm : ∀ m k, cc m k = cc k m := by
  intro m
  induction m with
  | zero => intro k; rw [cc_zero]; simp [cc]
  | succ m ih =>
    intro k
    induction k with
    | zero => rw [cc_zero]; simp [cc]
    | succ k ihk =>
      rw [cc_succ, cc_succ, ih (k + 1), ihk, Nat.add_comm]
def facN (k : Nat) : Nat := prodN 1 1 k
theorem facN_succ (k : Nat) : facN (k + 1) = facN k * (k + 1) := by
  show prodN 1 1 k * (1 + k * 1) = _
  rw [Nat.mul_one, Nat.add_comm 1 k]
  rfl
theorem facN_pos (k : Nat) : 0 < facN k := prodN_pos (by decide) k
theorem facN_two (k : Nat) : prodN 2 1 (k - 1) = facN k := by
  cases k with
  | zero => rfl
  | succ k =>
    rw [Nat.add_sub_cancel]
    show _ = prodN 1 1 (k + 1)
    rw [prodN_front 1 1 k, Nat.one_mul]
theorem prod_cc : ∀ m k, prodN (m + 1) 1 k = cc m k * facN k := by
  intro m
  induction m with
  | zero => intro k; simp [cc, facN]
  | succ m ih =>
    intro k
    induction k with
    | zero => rw [cc_zero]; rfl
    | succ k ihk =>
      have h1 := ih (k + 1)
      have h2 := prodN_front (m + 1) 1 k
      rw [cc_succ, Nat.add_mul, ← h1, h2, facN_succ, ← Nat.mul_assoc, ← ihk]
      show prodN (m + 1 + 1) 1 k * (m + 1 + 1 + k * 1) = _
      rw [Nat.mul_comm (m + 1), ← Nat.mul_add]
      congr 1
      omega
theorem cc_step (m k : Nat) : cc m (k + 1) * (k + 1) = cc m k * (m + (k + 1)) := by
  have h1 := prod_cc m (k + 1)
  have h2 := prod_cc m k
  have h3 : prodN (m + 1) 1 (k + 1) = prodN (m + 1) 1 k * (m + 1 + k * 1) := rfl
  rw [h3, h2, facN_succ] at h1
  have h4 := facN_pos k
  refine Nat.eq_of_mul_eq_mul_right h4 ?_
  rw [Nat.mul_assoc, Nat.mul_comm (k + 1), ← h1, Nat.mul_right_comm]
  congr 1
  congr 1
  omega
theorem cc_pos : ∀ m k, 0 < cc m k := by
  intro m
  induction m with
  | zero => intro k; simp [cc]
  | succ m ih =>
    intro k
    induction k with
    | zero => simp [cc]
    | succ k ihk =>
      rw [cc_succ]
      omega
theorem cc_le {m k : Nat} : cc m k ≤ prodN (m + 1) 1 k := by
  rw [prod_cc]
  exact Nat.le_mul_of_pos_right _ (facN_pos k)
/-- How many ways there are to choose k of n; none, where it makes no sense. -/
def chR (n k : Int) : Nat := if 0 ≤ n ∧ n ≤ 512 ∧ 0 ≤ k ∧ k ≤ n then cc (n - k).toNat k.toNat else 0
theorem mk_whole (s : Bool) (a b : Nat) (hb : 0 < b) : mkRat (sgn s (a * b)) b = mkRat (sgn s a) 1 := by
  have e : sgn s (a * b) = sgn s a * (b : Int) := by
    unfold sgn
    split
    · rw [Int.natCast_mul, Int.neg_mul]
    · rw [Int.natCast_mul]
  rw [e]
  have := Rat.mkRat_mul_right (n := sgn s a) (d := 1) (a := b) (by omega)
  rw [Nat.one_mul] at this
  exact this
theorem gam2_pos {n : Nat} : gam2 n ≠ 0 := by
  unfold gam2
  split
  · have := prodN_pos (a := 2) (b := 1) (by decide) (n / 2 - 2)
    intro h
    have h2 : prodN 2 1 (n / 2 - 2) = 0 := by exact_mod_cast h
    omega
  · have := prodN_pos (a := 3) (b := 2) (by decide) ((n - 3) / 2)
    intro h
    rw [Rat.mkRat_eq_zero (Nat.ne_of_gt (Nat.pow_pos (by decide)))] at h
    omega
/-- Beta of halves, but for how often pi. -/
def beta2 (a b : Nat) : Rat := gam2 a * gam2 b / gam2 (a + b)
theorem beta2_symm (a b : Nat) : beta2 a b = beta2 b a := by unfold beta2; rw [Rat.mul_comm, Nat.add_comm]
theorem beta2_mul (a b : Nat) : beta2 a b * gam2 (a + b) = gam2 a * gam2 b := by
  unfold beta2
  exact Rat.div_mul_cancel gam2_pos
end Go.Ev

/- Ways times chances: plain mathematics, no program. -/
namespace Go.Ev
/-- Of n tries, how many parts just j successes have; p: a success's parts, f: a failure's. -/
def termN (p f n j : Nat) : Nat := cc (n - j) j * p ^ j * f ^ (n - j)
/-- At most k successes: so many of the first. -/
def sumN (p f n : Nat) : Nat → Nat
  | 0 => 0
  | k + 1 => sumN p f n k + termN p f n k
theorem cc_move (m j : Nat) : cc (m + 1) j * (m + 1) = cc m (j + 1) * (j + 1) := by
  rw [cc_step, cc_symm (m + 1) j, cc_step, cc_symm j m]
  congr 1
  omega
theorem ways_step {p n j : Nat} (h : j < n) : cc (n - j) j * p ^ j * p * (n - j) / (j + 1) = cc (n - (j + 1)) (j + 1) * p ^ (j + 1) := by
  obtain ⟨m, hm⟩ : ∃ m, n - j = m + 1 := ⟨n - j - 1, by omega⟩
  rw [hm, show n - (j + 1) = m by omega]
  have h1 := cc_move m j
  have e : cc (m + 1) j * p ^ j * p * (m + 1) = cc m (j + 1) * p ^ (j + 1) * (j + 1) := by
    rw [Nat.mul_assoc (cc (m + 1) j), ← Nat.pow_succ, Nat.mul_right_comm, h1, Nat.mul_right_comm]
  rw [e, Nat.mul_div_cancel _ (by omega)]
/-- All of them are all. -/
theorem sumN_all : ∀ (p f n : Nat), sumN p f n (n + 1) = (p + f) ^ n := by
  have hz : ∀ p f n k, (∀ j, j < k → n < j → termN p f n j = 0) → True := fun _ _ _ _ _ => trivial
  intro p f n
  have key : ∀ n k, k ≤ n → sumN p f (n + 1) (k + 1) = f * sumN p f n (k + 1) + p * sumN p f n k := by
    intro n k hk
    induction k with
    | zero =>
      show 0 + termN p f (n + 1) 0 = f * (0 + termN p f n 0) + p * 0
      unfold termN
      simp only [Nat.sub_zero, cc_zero, Nat.pow_zero, Nat.mul_one, Nat.one_mul, Nat.zero_add, Nat.mul_zero, Nat.add_zero]
      rw [Nat.pow_succ, Nat.mul_comm]
    | succ k ih =>
      have h1 := ih (by omega)
      have h2 : termN p f (n + 1) (k + 1) = f * termN p f n (k + 1) + p * termN p f n k := by
        unfold termN
        obtain ⟨m, rfl⟩ : ∃ m, n = m + (k + 1) := ⟨n - (k + 1), by omega⟩
        rw [show m + (k + 1) + 1 - (k + 1) = m + 1 by omega, show m + (k + 1) - (k + 1) = m by omega, show m + (k + 1) - k = m + 1 by omega, cc_succ, Nat.add_mul, Nat.add_mul]
        rw [Nat.pow_succ f m, Nat.pow_succ p k]
        have e1 : cc m (k + 1) * (p ^ k * p) * (f ^ m * f) = f * (cc m (k + 1) * (p ^ k * p) * f ^ m) := by
          rw [← Nat.mul_assoc, Nat.mul_comm]
        have e2 : cc (m + 1) k * (p ^ k * p) * (f ^ m * f) = p * (cc (m + 1) k * p ^ k * (f ^ m * f)) := by
          rw [← Nat.mul_assoc (cc (m + 1) k), Nat.mul_comm (cc (m + 1) k * p ^ k) p, Nat.mul_assoc p]
        rw [e1, e2]
      show sumN p f (n + 1) (k + 1) + termN p f (n + 1) (k + 1) = f * (sumN p f n (k + 1) + termN p f n (k + 1)) + p * (sumN p f n k + termN p f n k)
      rw [h1, h2, Nat.mul_add, Nat.mul_add]
      omega
  induction n with
  | zero => show 0 + termN p f 0 0 = 1; simp [termN, cc]
  | succ n ih =>
    have h1 := key n n (Nat.le_refl _)
    have h2 : termN p f (n + 1) (n + 1) = p * termN p f n n := by
      unfold termN
      simp only [Nat.sub_self, Nat.pow_zero, Nat.mul_one]
      rw [show cc 0 (n + 1) = 1 by simp [cc], show cc 0 n = 1 by simp [cc], Nat.one_mul, Nat.one_mul, Nat.pow_succ, Nat.mul_comm]
    show sumN p f (n + 1) (n + 1) + termN p f (n + 1) (n + 1) = _
    rw [h1, h2, Nat.add_assoc, ← Nat.mul_add]
    show f * sumN p f n (n + 1) + p * sumN p f n (n + 1) = _
    rw [ih, ← Nat.add_mul, Nat.pow_succ, Nat.mul_comm, Nat.add_comm f p]
theorem sumN_mono (p f n : Nat) {a b : Nat} (h : a ≤ b) : sumN p f n a ≤ sumN p f n b := by
  induction b with
  | zero => have : a = 0 := by omega
            subst this; exact Nat.le_refl _
  | succ b ih =>
    rcases Nat.lt_or_ge b a with h1 | h1
    · have : a = b + 1 := by omega
      subst this; exact Nat.le_refl _
    · exact Nat.le_trans (ih h1) (Nat.le_add_right _ _)
end Go.Ev
