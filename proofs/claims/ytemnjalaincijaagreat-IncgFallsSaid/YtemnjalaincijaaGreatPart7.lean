/- Part 7 of the proof: the evaluator, contracts of functions and their plain laws (joined by program). No condition. -/
import Derived.Test.YtemnjalaincijaaGreatPart6
set_option linter.unusedVariables false
set_option linter.unusedSimpArgs false
set_option maxRecDepth 100000
namespace Go.Proofs.YtemnjalaincijaaGreat
open Go.Ev
theorem iv_eq {z : Int} {s : Bool} {n : Nat} (h1 : z.natAbs = n) (h2 : decide (z < 0) = s) : intV z = .agg [.bool s, natV (lim n)] := by subst h1 h2; rfl
theorem lenpos {n : Nat} : decide (((lim n).length : Int) > 0) = decide (n ≠ 0) := by
  rw [← lim_ne]; exact decide_eq_decide.2 (by omega)
theorem ref4_Plus (a b : Int) (ha : (lim a.natAbs).length ≤ 1000000) (hb : (lim b.natAbs).length ≤ 1000000) : Go.Ev.Fn CX 142 [intV a, intV b] (intV (a + b)) := by
  have s1 := ref1_AddL (N := a.natAbs) (D := b.natAbs) (by omega) (by omega)
  have c1 := ref1_CmpL (N := a.natAbs) (D := b.natAbs) (by omega) (by omega)
  have s2 := ref1_SubL (N := a.natAbs) (D := b.natAbs) (by omega) (by omega)
  have s3 := ref1_SubL (N := b.natAbs) (D := a.natAbs) (by omega) (by omega)
  have hbb := beq_bool (decide (a < 0)) (decide (b < 0))
  have l2 := lim_len_mono (Nat.sub_le a.natAbs b.natAbs)
  have l3 := lim_len_mono (Nat.sub_le b.natAbs a.natAbs)
  have hl := fun (n : Nat) => lenpos (n := n)
  have hbt : (true == false) = false := rfl
  have hbf : (false == true) = false := rfl
  by_cases hs : decide (a < 0) = decide (b < 0)
  · rw [decide_eq_true hs] at hbb
    have hs' := decide_eq_decide.1 hs
    rw [iv_eq (z := a + b) (s := decide (a < 0)) (n := a.natAbs + b.natAbs) (by omega) (decide_eq_decide.2 (by omega))]
    clear hs
    refine Go.Ev.Fn.intro (fn := Tryz.f142) (body := (Tryz.f142).body.get!) (by kernel_rfl) (by kernel_rfl) (by kernel_rfl) (fun _ => rfl) (Nat.le_of_ble_eq_true (by kernel_rfl)) ?_; unfold Tryz.f142; simp only [Option.get!_some]
    repeat (first | (simp only [go_sem, Nat.reduceEqDiff, Nat.reduceAdd, Nat.reduceSub, Nat.reduceMul, Nat.reduceLeDiff, Nat.reduceLT, reduceIte, reduceCtorEq, Nat.succ_ne_zero, elemsC, Int.reduceToNat, Nat.reducePow, hbb]) | (simp (disch := (first | omega | (simp only [AL, List.length_map]; omega))) only [AR, AL, ifT, ifF, take_all, List.length_cons, List.length_nil, Int.reduceToNat, Int.reducePow, Nat.reducePow, hbb]) | (refine wk_intro (by kernel_rfl) ?_) | (refine vp_draw (id := 2) (l := [17, 19]) (by kernel_rfl) ?_) | (refine vf_of (by first | exact s1) ?_))
  · rw [decide_eq_false hs] at hbb
    have hs' : ¬ ((a < 0) ↔ (b < 0)) := fun h => hs (decide_eq_decide.2 h)
    by_cases h2 : b.natAbs ≤ a.natAbs
    · have e : decide (cmpN a.natAbs b.natAbs ≥ 0) = true := decide_eq_true (by unfold cmpN; split <;> (try split) <;> omega)
      rw [iv_eq (z := a + b) (s := decide (a < 0) && decide (a.natAbs - b.natAbs ≠ 0)) (n := a.natAbs - b.natAbs) (by omega) (by rw [← Bool.decide_and]; exact decide_eq_decide.2 (by omega))]
      generalize cmpN a.natAbs b.natAbs = c at *
      generalize a.natAbs - b.natAbs = x at *
      clear hs s3 s1
      by_cases h3 : a < 0
      · rw [decide_eq_true h3]
        rw [decide_eq_true h3] at hbb
        refine Go.Ev.Fn.intro (fn := Tryz.f142) (body := (Tryz.f142).body.get!) (by kernel_rfl) (by kernel_rfl) (by kernel_rfl) (fun _ => rfl) (Nat.le_of_ble_eq_true (by kernel_rfl)) ?_; unfold Tryz.f142; simp only [Option.get!_some]
        repeat (first | (simp only [go_sem, Nat.reduceEqDiff, Nat.reduceAdd, Nat.reduceSub, Nat.reduceMul, Nat.reduceLeDiff, Nat.reduceLT, reduceIte, reduceCtorEq, Nat.succ_ne_zero, elemsC, Int.reduceToNat, Nat.reducePow, hbt, hbf, hbb, e, hl, Bool.true_and]) | (simp (disch := (first | omega | (simp only [AL, List.length_map]; omega))) only [AR, AL, ifT, ifF, take_all, List.length_cons, List.length_nil, Int.reduceToNat, Int.reducePow, Nat.reducePow, hbt, hbf, hbb, e, hl, Bool.true_and]) | (refine wk_intro (by kernel_rfl) ?_) | (refine vp_draw (id := 2) (l := [17, 19]) (by kernel_rfl) ?_) | (refine vf_of (by first | exact c1 | exact s2) ?_))
      · rw [decide_eq_false h3]
        rw [decide_eq_false h3] at hbb
        refine Go.Ev.Fn.intro (fn := Tryz.f142) (body := (Tryz.f142).body.get!) (by kernel_rfl) (by kernel_rfl) (by kernel_rfl) (fun _ => rfl) (Nat.le_of_ble_eq_true (by kernel_rfl)) ?_; unfold Tryz.f142; simp only [Option.get!_some]
        repeat (first | (simp only [go_sem, Nat.reduceEqDiff, Nat.reduceAdd, Nat.reduceSub, Nat.reduceMul, Nat.reduceLeDiff, Nat.reduceLT, reduceIte, reduceCtorEq, Nat.succ_ne_zero, elemsC, Int.reduceToNat, Nat.reducePow, hbt, hbf, hbb, e, hl, Bool.false_and]) | (simp (disch := (first | omega | (simp only [AL, List.length_map]; omega))) only [AR, AL, ifT, ifF, take_all, List.length_cons, List.length_nil, Int.reduceToNat, Int.reducePow, Nat.reducePow, hbt, hbf, hbb, e, hl, Bool.false_and]) | (refine wk_intro (by kernel_rfl) ?_) | (refine vp_draw (id := 2) (l := [17, 19]) (by kernel_rfl) ?_) | (refine vf_of (by first | exact c1 | exact s2) ?_))
    · have e : decide (cmpN a.natAbs b.natAbs ≥ 0) = false := decide_eq_false (by unfold cmpN; split <;> (try split) <;> omega)
      rw [iv_eq (z := a + b) (s := decide (b < 0) && decide (b.natAbs - a.natAbs ≠ 0)) (n := b.natAbs - a.natAbs) (by omega) (by rw [← Bool.decide_and]; exact decide_eq_decide.2 (by omega))]
      generalize cmpN a.natAbs b.natAbs = c at *
      generalize b.natAbs - a.natAbs = x at *
      clear hs s2 s1
      by_cases h3 : b < 0
      · rw [decide_eq_true h3]
        rw [decide_eq_true h3] at hbb
        refine Go.Ev.Fn.intro (fn := Tryz.f142) (body := (Tryz.f142).body.get!) (by kernel_rfl) (by kernel_rfl) (by kernel_rfl) (fun _ => rfl) (Nat.le_of_ble_eq_true (by kernel_rfl)) ?_; unfold Tryz.f142; simp only [Option.get!_some]
        repeat (first | (simp only [go_sem, Nat.reduceEqDiff, Nat.reduceAdd, Nat.reduceSub, Nat.reduceMul, Nat.reduceLeDiff, Nat.reduceLT, reduceIte, reduceCtorEq, Nat.succ_ne_zero, elemsC, Int.reduceToNat, Nat.reducePow, hbt, hbf, hbb, e, hl, Bool.true_and]) | (simp (disch := (first | omega | (simp only [AL, List.length_map]; omega))) only [AR, AL, ifT, ifF, take_all, List.length_cons, List.length_nil, Int.reduceToNat, Int.reducePow, Nat.reducePow, hbt, hbf, hbb, e, hl, Bool.true_and]) | (refine wk_intro (by kernel_rfl) ?_) | (refine vp_draw (id := 2) (l := [17, 19]) (by kernel_rfl) ?_) | (refine vf_of (by first | exact c1 | exact s3) ?_))
      · rw [decide_eq_false h3]
        rw [decide_eq_false h3] at hbb
        refine Go.Ev.Fn.intro (fn := Tryz.f142) (body := (Tryz.f142).body.get!) (by kernel_rfl) (by kernel_rfl) (by kernel_rfl) (fun _ => rfl) (Nat.le_of_ble_eq_true (by kernel_rfl)) ?_; unfold Tryz.f142; simp only [Option.get!_some]
        repeat (first | (simp only [go_sem, Nat.reduceEqDiff, Nat.reduceAdd, Nat.reduceSub, Nat.reduceMul, Nat.reduceLeDiff, Nat.reduceLT, reduceIte, reduceCtorEq, Nat.succ_ne_zero, elemsC, Int.reduceToNat, Nat.reducePow, hbt, hbf, hbb, e, hl, Bool.false_and]) | (simp (disch := (first | omega | (simp only [AL, List.length_map]; omega))) only [AR, AL, ifT, ifF, take_all, List.length_cons, List.length_nil, Int.reduceToNat, Int.reducePow, Nat.reducePow, hbt, hbf, hbb, e, hl, Bool.false_and]) | (refine wk_intro (by kernel_rfl) ?_) | (refine vp_draw (id := 2) (l := [17, 19]) (by kernel_rfl) ?_) | (refine vf_of (by first | exact c1 | exact s3) ?_))
theorem ref4_Times (a b : Int) (ha : (lim a.natAbs).length ≤ 100000) (hb : (lim b.natAbs).length ≤ 100000) : Go.Ev.Fn CX 156 [intV a, intV b] (intV (a * b)) := by
  have m := ref1_MulL (N := a.natAbs) (D := b.natAbs) (by omega) (by omega)
  have l := lim_len_mul (a := a.natAbs) (b := b.natAbs)
  have hl := fun (n : Nat) => lenpos (n := n)
  rw [iv_eq (z := a * b) (s := (!(decide (a < 0) == decide (b < 0))) && decide (a.natAbs * b.natAbs ≠ 0)) (n := a.natAbs * b.natAbs) (Int.natAbs_mul a b) ?_]
  · generalize a.natAbs * b.natAbs = x at *
    cases h1 : (!(decide (a < 0) == decide (b < 0)))
    · refine Go.Ev.Fn.intro (fn := Tryz.f156) (body := (Tryz.f156).body.get!) (by kernel_rfl) (by kernel_rfl) (by kernel_rfl) (fun _ => rfl) (Nat.le_of_ble_eq_true (by kernel_rfl)) ?_; unfold Tryz.f156; simp only [Option.get!_some]
      repeat (first | (simp only [go_sem, Nat.reduceEqDiff, Nat.reduceAdd, Nat.reduceSub, Nat.reduceMul, Nat.reduceLeDiff, Nat.reduceLT, reduceIte, reduceCtorEq, Nat.succ_ne_zero, elemsC, Int.reduceToNat, Nat.reducePow, h1, hl, Bool.false_and]) | (simp (disch := (first | omega | (simp only [AL, List.length_map]; omega))) only [AR, AL, ifT, ifF, take_all, List.length_cons, List.length_nil, Int.reduceToNat, Int.reducePow, Nat.reducePow, h1, hl, Bool.false_and]) | (refine wk_intro (by kernel_rfl) ?_) | (refine vf_of (by first | exact m) ?_))
    · refine Go.Ev.Fn.intro (fn := Tryz.f156) (body := (Tryz.f156).body.get!) (by kernel_rfl) (by kernel_rfl) (by kernel_rfl) (fun _ => rfl) (Nat.le_of_ble_eq_true (by kernel_rfl)) ?_; unfold Tryz.f156; simp only [Option.get!_some]
      repeat (first | (simp only [go_sem, Nat.reduceEqDiff, Nat.reduceAdd, Nat.reduceSub, Nat.reduceMul, Nat.reduceLeDiff, Nat.reduceLT, reduceIte, reduceCtorEq, Nat.succ_ne_zero, elemsC, Int.reduceToNat, Nat.reducePow, h1, hl, Bool.true_and]) | (simp (disch := (first | omega | (simp only [AL, List.length_map]; omega))) only [AR, AL, ifT, ifF, take_all, List.length_cons, List.length_nil, Int.reduceToNat, Int.reducePow, Nat.reducePow, h1, hl, Bool.true_and]) | (refine wk_intro (by kernel_rfl) ?_) | (refine vf_of (by first | exact m) ?_))
  · by_cases h0 : a.natAbs * b.natAbs = 0
    · have : a * b = 0 := by
        have := Int.natAbs_mul a b
        omega
      rw [this, h0]
      simp
    · rw [decide_eq_true h0, Bool.and_true]
      have h := sgn_mul a b
      rw [← h]
      exact sgn_neg _ h0
def cmpZ (a b : Int) : Int := if a < b then -1 else if a = b then 0 else 1
theorem ref4_Cmp (a b : Int) (ha : (lim a.natAbs).length ≤ 100000) (hb : (lim b.natAbs).length ≤ 100000) : Go.Ev.Fn CX 144 [intV a, intV b] (.int .i64 (cmpZ a b)) := by
  have o := ref4_Opp b (by omega)
  have s := ref4_Plus a (-b) (by omega) (by rw [Int.natAbs_neg]; omega)
  have l : (lim (a + -b).natAbs).length ≤ 100001 := Nat.le_trans (lim_len_mono (show (a + -b).natAbs ≤ a.natAbs + b.natAbs by omega)) (lim_len_add (L := 100000) ha hb)
  by_cases h0 : a + -b = 0
  · rw [show cmpZ a b = 0 by unfold cmpZ; rw [if_neg (by omega), if_pos (by omega)]]
    have e : (lim (a + -b).natAbs).length = 0 := by rw [h0]; simp [lim_zero]
    refine Go.Ev.Fn.intro (fn := Tryz.f144) (body := (Tryz.f144).body.get!) (by kernel_rfl) (by kernel_rfl) (by kernel_rfl) (fun _ => rfl) (Nat.le_of_ble_eq_true (by kernel_rfl)) ?_; unfold Tryz.f144; simp only [Option.get!_some]
    repeat (first | (simp only [go_sem, Nat.reduceEqDiff, Nat.reduceAdd, Nat.reduceSub, Nat.reduceMul, Nat.reduceLeDiff, Nat.reduceLT, reduceIte, reduceCtorEq, Nat.succ_ne_zero, elemsC, Int.reduceToNat, Nat.reducePow, e]) | (simp (disch := (first | omega | (simp only [AL, List.length_map]; omega))) only [AR, AL, ifT, ifF, take_all, List.length_cons, List.length_nil, Int.reduceToNat, Int.reducePow, Nat.reducePow, e]) | (refine wk_intro (by kernel_rfl) ?_) | (refine vp_draw (id := 1) (l := []) (by kernel_rfl) ?_) | (refine vf_of (by first | exact o | exact s) ?_))
  · have e := lim_pos (N := (a + -b).natAbs) (by omega)
    by_cases h1 : a + -b < 0
    · rw [show cmpZ a b = -1 by unfold cmpZ; rw [if_pos (by omega)]]
      have e2 : decide (a + -b < 0) = true := decide_eq_true h1
      refine Go.Ev.Fn.intro (fn := Tryz.f144) (body := (Tryz.f144).body.get!) (by kernel_rfl) (by kernel_rfl) (by kernel_rfl) (fun _ => rfl) (Nat.le_of_ble_eq_true (by kernel_rfl)) ?_; unfold Tryz.f144; simp only [Option.get!_some]
      repeat (first | (simp only [go_sem, Nat.reduceEqDiff, Nat.reduceAdd, Nat.reduceSub, Nat.reduceMul, Nat.reduceLeDiff, Nat.reduceLT, reduceIte, reduceCtorEq, Nat.succ_ne_zero, elemsC, Int.reduceToNat, Nat.reducePow, e2]) | (simp (disch := (first | omega | (simp only [AL, List.length_map]; omega))) only [AR, AL, ifT, ifF, take_all, List.length_cons, List.length_nil, Int.reduceToNat, Int.reducePow, Nat.reducePow, e2]) | (refine wk_intro (by kernel_rfl) ?_) | (refine vp_draw (id := 1) (l := []) (by kernel_rfl) ?_) | (refine vf_of (by first | exact o | exact s) ?_))
    · rw [show cmpZ a b = 1 by unfold cmpZ; rw [if_neg (by omega), if_neg (by omega)]]
      have e2 : decide (a + -b < 0) = false := decide_eq_false h1
      refine Go.Ev.Fn.intro (fn := Tryz.f144) (body := (Tryz.f144).body.get!) (by kernel_rfl) (by kernel_rfl) (by kernel_rfl) (fun _ => rfl) (Nat.le_of_ble_eq_true (by kernel_rfl)) ?_; unfold Tryz.f144; simp only [Option.get!_some]
      repeat (first | (simp only [go_sem, Nat.reduceEqDiff, Nat.reduceAdd, Nat.reduceSub, Nat.reduceMul, Nat.reduceLeDiff, Nat.reduceLT, reduceIte, reduceCtorEq, Nat.succ_ne_zero, elemsC, Int.reduceToNat, Nat.reducePow, e2]) | (simp (disch := (first | omega | (simp only [AL, List.length_map]; omega))) only [AR, AL, ifT, ifF, take_all, List.length_cons, List.length_nil, Int.reduceToNat, Int.reducePow, Nat.reducePow, e2]) | (refine wk_intro (by kernel_rfl) ?_) | (refine vp_draw (id := 1) (l := []) (by kernel_rfl) ?_) | (refine vf_of (by first | exact o | exact s) ?_))
def cdZ (a : Int) (d : Nat) : Int := -(-a / (d : Int))
theorem fall_eq {a : Int} {d : Nat} (hd : d ≠ 0) : a / (d : Int) = if a < 0 ∧ a.natAbs % d ≠ 0 then -((a.natAbs / d + 1 : Nat) : Int) else sgn (decide (a < 0)) (a.natAbs / d) := by
  by_cases h : a < 0
  · obtain ⟨m, rfl⟩ : ∃ m : Nat, a = -(m : Int) := ⟨a.natAbs, by omega⟩
    rw [Int.natAbs_neg, Int.natAbs_natCast]
    have hm := Nat.div_add_mod m d
    have hlt := Nat.mod_lt m (Nat.pos_of_ne_zero hd)
    by_cases h2 : m % d = 0
    · rw [if_neg (fun g => g.2 h2), decide_eq_true h]
      unfold sgn
      rw [if_pos rfl]
      have : -(m : Int) = (d : Int) * -((m / d : Nat) : Int) := by
        rw [Int.mul_neg, ← Int.natCast_mul]
        omega
      rw [this, Int.mul_ediv_cancel_left _ (by omega)]
    · rw [if_pos ⟨h, h2⟩]
      have e : -(m : Int) = ((d - m % d : Nat) : Int) + (d : Int) * -((m / d + 1 : Nat) : Int) := by
        rw [Int.mul_neg, ← Int.natCast_mul, Nat.mul_add, Nat.mul_one]
        omega
      rw [e, Int.add_mul_ediv_left _ _ (by omega), Int.ediv_eq_zero_of_lt (by omega) (by omega)]
      omega
  · obtain ⟨m, rfl⟩ : ∃ m : Nat, a = (m : Int) := ⟨a.natAbs, by omega⟩
    rw [if_neg (fun g => h g.1), decide_eq_false h, Int.natAbs_natCast]
    unfold sgn
    rw [if_neg (by simp), Int.natCast_ediv]
theorem sgn_iv (s : Bool) (n : Nat) : intV (sgn s n) = .agg [.bool (s && decide (n ≠ 0)), natV (lim n)] := by
  refine iv_eq (sgn_abs s n) ?_
  by_cases h : n = 0
  · subst h; rw [sgn_zero]; simp
  · rw [sgn_neg s h, decide_eq_true h, Bool.and_true]
theorem ref4_Fall (a : Int) (d : Nat) (hd : d ≠ 0) (ha : (lim a.natAbs).length ≤ 1000000) (hb : (lim d).length ≤ 1000000) : Go.Ev.Fn CX 152 [intV a, natV (lim d)] (intV (a / (d : Int))) := by
  have s1 := ref1_DivL (N := a.natAbs) (D := d) hd (by omega) (by omega)
  have l := lim_len_mono (Nat.div_le_self a.natAbs d)
  have l1 := lim_len1
  have s2 := ref1_AddL (N := a.natAbs / d) (D := 1) (by omega) (by omega)
  rw [lim_one] at s2
  have hl := fun (n : Nat) => lenpos (n := n)
  have l4 := lim_len_mono (Nat.le_of_lt (Nat.mod_lt a.natAbs (Nat.pos_of_ne_zero hd)))
  have l5 := lim_len_add (a := a.natAbs / d) (b := 1) (L := 1000000) (by omega) (by omega)
  have e := fall_eq (a := a) hd
  by_cases h : a < 0
  · by_cases h2 : a.natAbs % d = 0
    · rw [if_neg (fun g => g.2 h2)] at e
      rw [e, sgn_iv, decide_eq_true h]
      rw [h2] at s1
      have h0 : decide ((0 : Nat) ≠ 0) = false := rfl
      generalize a.natAbs / d = x at *
      refine Go.Ev.Fn.intro (fn := Tryz.f152) (body := (Tryz.f152).body.get!) (by kernel_rfl) (by kernel_rfl) (by kernel_rfl) (fun _ => rfl) (Nat.le_of_ble_eq_true (by kernel_rfl)) ?_; unfold Tryz.f152; simp only [Option.get!_some]
      repeat (first | (simp only [go_sem, Nat.reduceEqDiff, Nat.reduceAdd, Nat.reduceSub, Nat.reduceMul, Nat.reduceLeDiff, Nat.reduceLT, reduceIte, reduceCtorEq, Nat.succ_ne_zero, elemsC, Int.reduceToNat, Nat.reducePow, hl, h0, Bool.true_and]) | (simp (disch := (first | omega | (simp only [AL, List.length_map]; omega))) only [AR, AL, ifT, ifF, take_all, List.length_cons, List.length_nil, Int.reduceToNat, Int.reducePow, Nat.reducePow, hl, h0, Bool.true_and]) | (refine wk_intro (by kernel_rfl) ?_) | (refine vf_of (by first | exact s1) ?_))
    · rw [if_pos ⟨h, h2⟩] at e
      rw [e, show -((a.natAbs / d + 1 : Nat) : Int) = sgn true (a.natAbs / d + 1) from rfl, sgn_iv]
      have h0 : decide (a.natAbs % d ≠ 0) = true := decide_eq_true h2
      generalize a.natAbs / d + 1 = y at *
      generalize a.natAbs / d = x at *
      generalize a.natAbs % d = r at *
      refine Go.Ev.Fn.intro (fn := Tryz.f152) (body := (Tryz.f152).body.get!) (by kernel_rfl) (by kernel_rfl) (by kernel_rfl) (fun _ => rfl) (Nat.le_of_ble_eq_true (by kernel_rfl)) ?_; unfold Tryz.f152; simp only [Option.get!_some]
      repeat (first | (simp only [go_sem, Nat.reduceEqDiff, Nat.reduceAdd, Nat.reduceSub, Nat.reduceMul, Nat.reduceLeDiff, Nat.reduceLT, reduceIte, reduceCtorEq, Nat.succ_ne_zero, elemsC, Int.reduceToNat, Nat.reducePow, hl, h0, Bool.true_and]) | (simp (disch := (first | omega | (simp only [AL, List.length_map]; omega))) only [AR, AL, ifT, ifF, take_all, List.length_cons, List.length_nil, Int.reduceToNat, Int.reducePow, Nat.reducePow, hl, h0, Bool.true_and]) | (refine wk_intro (by kernel_rfl) ?_) | (refine vf_of (by first | exact s1 | exact s2) ?_))
  · rw [if_neg (fun g => h g.1)] at e
    rw [e, sgn_iv, decide_eq_false h]
    generalize a.natAbs / d = x at *
    refine Go.Ev.Fn.intro (fn := Tryz.f152) (body := (Tryz.f152).body.get!) (by kernel_rfl) (by kernel_rfl) (by kernel_rfl) (fun _ => rfl) (Nat.le_of_ble_eq_true (by kernel_rfl)) ?_; unfold Tryz.f152; simp only [Option.get!_some]
    repeat (first | (simp only [go_sem, Nat.reduceEqDiff, Nat.reduceAdd, Nat.reduceSub, Nat.reduceMul, Nat.reduceLeDiff, Nat.reduceLT, reduceIte, reduceCtorEq, Nat.succ_ne_zero, elemsC, Int.reduceToNat, Nat.reducePow, hl, Bool.false_and]) | (simp (disch := (first | omega | (simp only [AL, List.length_map]; omega))) only [AR, AL, ifT, ifF, take_all, List.length_cons, List.length_nil, Int.reduceToNat, Int.reducePow, Nat.reducePow, hl, Bool.false_and]) | (refine wk_intro (by kernel_rfl) ?_) | (refine vf_of (by first | exact s1) ?_))
theorem abs_div_le (a : Int) {d : Nat} (hd : d ≠ 0) : (a / (d : Int)).natAbs ≤ a.natAbs := by
  rw [fall_eq hd]
  have h1 := Nat.div_le_self a.natAbs d
  split
  · rename_i h
    rw [Int.natAbs_neg, Int.natAbs_natCast]
    have hm := Nat.div_add_mod a.natAbs d
    have : a.natAbs / d ≤ d * (a.natAbs / d) := Nat.le_mul_of_pos_left _ (Nat.pos_of_ne_zero hd)
    omega
  · rw [sgn_abs]; exact h1
theorem ref4_Rise (a : Int) (d : Nat) (hd : d ≠ 0) (ha : (lim a.natAbs).length ≤ 1000000) (hb : (lim d).length ≤ 1000000) : Go.Ev.Fn CX 153 [intV a, natV (lim d)] (intV (cdZ a d)) := by
  have o := ref4_Opp a ha
  have f := ref4_Fall (-a) d hd (by rw [Int.natAbs_neg]; exact ha) hb
  have l := lim_len_mono (abs_div_le (-a) hd)
  rw [Int.natAbs_neg a] at l
  have o2 := ref4_Opp (-a / (d : Int)) (by omega)
  unfold cdZ
  generalize -a / (d : Int) = y at *
  refine Go.Ev.Fn.intro (fn := Tryz.f153) (body := (Tryz.f153).body.get!) (by kernel_rfl) (by kernel_rfl) (by kernel_rfl) (fun _ => rfl) (Nat.le_of_ble_eq_true (by kernel_rfl)) ?_; unfold Tryz.f153; simp only [Option.get!_some]
  repeat (first | (simp only [go_sem, Nat.reduceEqDiff, Nat.reduceAdd, Nat.reduceSub, Nat.reduceMul, Nat.reduceLeDiff, Nat.reduceLT, reduceIte, reduceCtorEq, Nat.succ_ne_zero, elemsC, Int.reduceToNat, Nat.reducePow]) | (simp (disch := (first | omega | (simp only [AL, List.length_map]; omega))) only [AR, AL, ifT, ifF, take_all, List.length_cons, List.length_nil, Int.reduceToNat, Int.reducePow, Nat.reducePow]) | (refine wk_intro (by kernel_rfl) ?_) | (refine vf_of (by first | exact o | exact f | exact o2) ?_))
theorem ref4_pow2 {n : Nat} (h : n ≤ 4096) : Go.Ev.Fn CX 183 [.int .i64 (n : Int)] (natV (lim (2 ^ n))) := by
  have s := ref1_shift_up (lim 1) n (okL_lim _) (by rw [lim_one]; simp) _ rfl h
  rw [wth_lim, Nat.one_mul, lim_one] at s
  refine Go.Ev.Fn.intro (fn := Tryz.f183) (body := (Tryz.f183).body.get!) (by kernel_rfl) (by kernel_rfl) (by kernel_rfl) (fun _ => rfl) (Nat.le_of_ble_eq_true (by kernel_rfl)) ?_; unfold Tryz.f183; simp only [Option.get!_some]
  repeat (first | (simp only [go_sem, Nat.reduceEqDiff, Nat.reduceAdd, Nat.reduceSub, Nat.reduceMul, Nat.reduceLeDiff, Nat.reduceLT, reduceIte, reduceCtorEq, Nat.succ_ne_zero, elemsC, Int.reduceToNat, Nat.reducePow]) | (simp (disch := (first | omega | (simp only [AL, List.length_map]; omega))) only [AR, AL, ifT, ifF, take_all, List.length_cons, List.length_nil, Int.reduceToNat, Int.reducePow, Nat.reducePow]) | (refine wk_intro (by kernel_rfl) ?_) | (refine vf_of (by first | exact s) ?_))
end Go.Proofs.YtemnjalaincijaaGreat
namespace Go.Proofs.YtemnjalaincijaaGreat
open Go.Ev
theorem wth_drop1 (b : List Nat) (i : Nat) : wth (b.drop i) = b.getD i 0 + 4294967296 * wth (b.drop (i + 1)) := by
  by_cases h : i < b.length
  · rw [List.drop_eq_getElem_cons h, List.getD_eq_getElem?_getD, List.getElem?_eq_getElem h]
    rfl
  · rw [List.drop_of_length_le (by omega), List.drop_of_length_le (by omega), getD_ge (by omega)]
    simp [wth]
theorem wth_shr_drop {a : List Nat} (ha : okL a) (m : Nat) : wth a / 2 ^ m = wth (a.drop (m / 32)) / 2 ^ (m % 32) := by
  have hpow : 2 ^ m = 4294967296 ^ (m / 32) * 2 ^ (m % 32) := pow_32 m
  rw [hpow, ← Nat.div_div_eq_div_mul]
  congr 1
  conv => lhs; rw [← List.take_append_drop (m / 32) a, wth_append]
  have h1 := wth_lt (okL_take ha (m / 32))
  rw [List.length_take] at h1 ⊢
  rcases Nat.lt_or_ge a.length (m / 32) with h2 | h2
  · rw [List.drop_of_length_le (by omega)]
    simp only [wth, Nat.mul_zero, Nat.add_zero]
    refine Nat.div_eq_of_lt (Nat.lt_of_lt_of_le h1 (Nat.pow_le_pow_right (by omega) (Nat.min_le_left _ _)))
  · rw [Nat.min_eq_left h2] at h1 ⊢
    rw [Nat.add_comm, Nat.mul_add_div (Nat.pow_pos (by omega)), Nat.div_eq_of_lt h1, Nat.add_zero]
theorem ref1_shift_down (xs : List Nat) (m : Nat) (hx : okL xs) (hl : xs.length ≤ 1073741824) (s : Int) (hs : s = -(m : Int)) (hm : m ≤ 4096) (hm0 : 0 < m) :
    Go.Ev.Fn CX 137 [natV xs, .int .i64 s] (natV (lim (wth xs / 2 ^ m))) := by
  refine Go.Ev.Fn.intro (fn := Tryz.f137) (body := (Tryz.f137).body.get!) (by kernel_rfl) (by kernel_rfl) (by kernel_rfl) (fun _ => rfl) (Nat.le_of_ble_eq_true (by kernel_rfl)) ?_; unfold Tryz.f137; simp only [Option.get!_some]
  have lx := lim_length_le hx
  have e1 : (if (-4096 : Int) > s then (-4096 : Int) else s) = s := if_neg (by omega)
  have e2 : (if (4096 : Int) < s then (4096 : Int) else s) = s := if_neg (by omega)
  have e3 : IntKind.i64.wrap (0 - s) = (m : Int) := by rw [wI64 (by omega)]; omega
  have hs0 : decide (s < 0) = true := by simp; omega
  repeat (first | (simp only [go_sem, Nat.reduceEqDiff, Nat.reduceAdd, Nat.reduceSub, Nat.reduceMul, Nat.reduceLeDiff, Nat.reduceLT, reduceIte, reduceCtorEq, Nat.succ_ne_zero, elemsC, Int.reduceToNat, Nat.reducePow, e1, e2, e3]) | (simp (disch := (first | omega | (simp only [AL, List.length_map]; omega))) only [AR, AL, ifT, ifF, take_all, List.length_cons, List.length_nil, Int.reduceToNat, Int.reducePow, Nat.reducePow, e1, e2, e3]) | (refine wk_intro (by kernel_rfl) ?_) | (refine vp_draw (l := []) (by kernel_rfl) ?_))
  have ha := okL_lim (wth xs)
  refine vf_of (ref1_Trim xs hx (by omega)) ?_; repeat (first | (simp only [go_sem, Nat.reduceEqDiff, Nat.reduceAdd, Nat.reduceSub, Nat.reduceMul, Nat.reduceLeDiff, Nat.reduceLT, reduceIte, reduceCtorEq, Nat.succ_ne_zero, elemsC, Int.reduceToNat, Nat.reducePow, e1, e2, e3, tdiv32, tmod32, hs0]) | (simp (disch := (first | omega | (simp only [AL, List.length_map]; omega))) only [AR, AL, ifT, ifF, take_all, List.length_cons, List.length_nil, Int.reduceToNat, Int.reducePow, Nat.reducePow, e1, e2, e3, tdiv32, tmod32, hs0]) | (refine wk_intro (by kernel_rfl) ?_))
  have va := wth_lim (wth xs)
  generalize lim (wth xs) = a at *
  have hk : m % 32 < 32 := Nat.mod_lt _ (by omega)
  rw [← va, wth_shr_drop ha]
  by_cases hlen : a.length ≤ m / 32
  · rw [List.drop_of_length_le hlen]
    have e0 : lim (wth [] / 2 ^ (m % 32)) = [] := by simp [wth, lim_zero]
    rw [e0]
    repeat (first | (simp only [go_sem, Nat.reduceEqDiff, Nat.reduceAdd, Nat.reduceSub, Nat.reduceMul, Nat.reduceLeDiff, Nat.reduceLT, reduceIte, reduceCtorEq, Nat.succ_ne_zero, elemsC, Int.reduceToNat, Nat.reducePow, e3, tdiv32, tmod32]) | (simp (disch := (first | omega | (simp only [AL, List.length_map]; omega))) only [AR, AL, ifT, ifF, take_all, List.length_cons, List.length_nil, Int.reduceToNat, Int.reducePow, Nat.reducePow, e3, tdiv32, tmod32]) | (refine wk_intro (by kernel_rfl) ?_))
    rfl
  · repeat (first | (simp only [go_sem, Nat.reduceEqDiff, Nat.reduceAdd, Nat.reduceSub, Nat.reduceMul, Nat.reduceLeDiff, Nat.reduceLT, reduceIte, reduceCtorEq, Nat.succ_ne_zero, elemsC, Int.reduceToNat, Nat.reducePow, e3, tdiv32, tmod32]) | (simp (disch := (first | omega | (simp only [AL, List.length_map]; omega))) only [AR, AL, ifT, ifF, take_all, List.length_cons, List.length_nil, Int.reduceToNat, Int.reducePow, Nat.reducePow, e3, tdiv32, tmod32]) | (refine wk_intro (by kernel_rfl) ?_))
    have hbl : (a.drop (m / 32)).length = a.length - m / 32 := List.length_drop ..
    have hb := okL_drop ha (m / 32)
    have hnl : a.length - m / 32 ≤ 1073741824 := by omega
    have hpos : 0 < a.length - m / 32 := by omega
    generalize a.drop (m / 32) = b at *
    generalize a.length - m / 32 = n at *
    subst hbl
    generalize m % 32 = k at *
    clear e1 e2 e3 hs0 va lx hx hl
    refine vp_loop_inv (fun s' => s'.tmp 5 = .sv (natV b) ∧ s'.tmp 7 = .sv (.int .u64 k) ∧
        ∃ c : List Nat, ∃ i : Nat, s'.tmp 9 = .sv (.int .i64 i) ∧ c.length = i ∧ okL c ∧ i ≤ b.length ∧ wth c + 4294967296 ^ i * (wth (b.drop i) / 2 ^ k) = wth b / 2 ^ k ∧
          ((i = 0 ∧ s'.tmp 8 = .nil ∧ s'.gen 56 = 0) ∨ (0 < i ∧ s'.tmp 8 = .ref 56 0 1 0 i ∧ s'.obj 56 0 = some (c.map limb))))
      (fun s => match s.tmp 9 with | .sv (.int _ i) => b.length - i.toNat | _ => 0) ⟨rfl, rfl, [], 0, rfl, rfl, okL_nil, by omega, by simp [wth], .inl ⟨rfl, rfl, rfl⟩⟩ ?_
    rintro s' ⟨i5, i7, c, i, i9, hcl, hc, hi, hv, hcase⟩
    by_cases hend : i = b.length
    · subst hend
      rw [List.drop_of_length_le (Nat.le_refl _), show wth [] / 2 ^ k = 0 by simp [wth], Nat.mul_zero, Nat.add_zero] at hv
      rcases hcase with ⟨h0, i8, -⟩ | ⟨h0, i8, iO⟩
      · omega
      · repeat (first | (simp only [go_sem, Nat.reduceEqDiff, Nat.reduceAdd, Nat.reduceSub, Nat.reduceMul, Nat.reduceLeDiff, Nat.reduceLT, reduceIte, reduceCtorEq, Nat.succ_ne_zero, elemsC, Int.reduceToNat, Nat.reducePow, i5, i7, i9, i8, iO]) | (simp (disch := (first | omega | (simp only [AL, List.length_map]; omega))) only [AR, AL, ifT, ifF, take_all, List.length_cons, List.length_nil, Int.reduceToNat, Int.reducePow, Nat.reducePow, i5, i7, i9, i8, iO]) | (refine wk_intro (by kernel_rfl) ?_) | (refine vp_draw (l := []) (by kernel_rfl) ?_))
        refine vf_of (fn_natV (ref1_Trim c hc (by omega)) hcl) ?_; repeat (first | (simp only [go_sem, Nat.reduceEqDiff, Nat.reduceAdd, Nat.reduceSub, Nat.reduceMul, Nat.reduceLeDiff, Nat.reduceLT, reduceIte, reduceCtorEq, Nat.succ_ne_zero, elemsC, Int.reduceToNat, Nat.reducePow, i5, i7, i9, i8, iO]) | (simp (disch := (first | omega | (simp only [AL, List.length_map]; omega))) only [AR, AL, ifT, ifF, take_all, List.length_cons, List.length_nil, Int.reduceToNat, Int.reducePow, Nat.reducePow, i5, i7, i9, i8, iO]) | (refine wk_intro (by kernel_rfl) ?_) | (refine vp_draw (l := []) (by kernel_rfl) ?_))
        rw [hv]
    · have h1 := getD_lt hb i
      have h2 := getD_lt hb (i + 1)
      have a1 := ref1_at b i hb (by omega) (by omega)
      have a2 := ref1_at b (i + 1) hb (by omega) (by omega)
      rw [show ((i + 1 : Nat) : Int) = (i : Int) + 1 from rfl] at a2
      have d1 := wth_drop1 b i
      have d2 := wth_drop1 b (i + 1)
      obtain ⟨g1, g2⟩ := (shr_limb hk (d1.trans (by rw [d2]))).resolve_right (not_not_intro h1)
      rw [← d2] at g2
      generalize hxx : b.getD i 0 = x at *
      generalize hyy : b.getD (i + 1) 0 = y at *
      have hsplit := Nat.mod_add_div (wth (b.drop i) / 2 ^ k) 4294967296
      rw [g1, g2] at hsplit
      have hv2 : ∀ v, v = (x + 4294967296 * y) / 2 ^ k % 4294967296 → wth (c ++ [v]) + 4294967296 ^ (i + 1) * (wth (b.drop (i + 1)) / 2 ^ k) = wth b / 2 ^ k := by
        rintro v rfl
        rw [wth_snoc, hcl, ← hv, ← hsplit, Nat.pow_succ, Nat.mul_add, Nat.mul_assoc, Nat.add_assoc]
      have hj : bitsSV .or .u64 ((x : Nat) : Int) ((y * 4294967296 : Nat) : Int) = some (.int .u64 ((x + 4294967296 * y : Nat) : Int)) := by
        rw [b_or64 (by omega) (by omega), or_high h1]
      have hw64 : y * 4294967296 % 18446744073709551616 = y * 4294967296 := Nat.mod_eq_of_lt (by omega)
      have hk64 : min k 64 = k := by omega
      have hz : (x + 4294967296 * y) / 2 ^ k % 4294967296 < 4294967296 := Nat.mod_lt _ (by omega)
      clear hsplit g1 g2 d1 d2 hv
      rcases hcase with ⟨h0, i8, ig⟩ | ⟨h0, i8, iO⟩
      · repeat (first | (simp only [go_sem, Nat.reduceEqDiff, Nat.reduceAdd, Nat.reduceSub, Nat.reduceMul, Nat.reduceLeDiff, Nat.reduceLT, reduceIte, reduceCtorEq, Nat.succ_ne_zero, elemsC, Int.reduceToNat, Nat.reducePow, i5, i7, i9, i8, ig]) | (simp (disch := (first | omega | (simp only [AL, List.length_map]; omega))) only [AR, AL, ifT, ifF, take_all, List.length_cons, List.length_nil, Int.reduceToNat, Int.reducePow, Nat.reducePow, i5, i7, i9, i8, ig]) | (refine wk_intro (by kernel_rfl) ?_) | (refine vp_draw (l := []) (by kernel_rfl) ?_))
        repeat (first | (simp only [go_sem, Nat.reduceEqDiff, Nat.reduceAdd, Nat.reduceSub, Nat.reduceMul, Nat.reduceLeDiff, Nat.reduceLT, reduceIte, reduceCtorEq, Nat.succ_ne_zero, elemsC, Int.reduceToNat, Nat.reducePow, i5, i7, i9, i8, ig, hj, hw64, hk64, N0]) | (simp (disch := (first | omega | (simp only [AL, List.length_map]; omega))) only [AR, AL, ifT, ifF, take_all, List.length_cons, List.length_nil, Int.reduceToNat, Int.reducePow, Nat.reducePow, i5, i7, i9, i8, ig, hj, hw64, hk64, N0]) | (refine wk_intro (by kernel_rfl) ?_) | (refine vp_draw (l := []) (by kernel_rfl) ?_) | (refine vf_of (by first | exact a1 | exact a2) ?_))
        subst h0
        obtain rfl := List.length_eq_zero_iff.1 hcl
        exact ⟨⟨[] ++ [(x + 4294967296 * y) / 2 ^ k % 4294967296], 1, rfl, rfl, okL_append.2 ⟨hc, okL_cons.2 ⟨hz, okL_nil⟩⟩, by omega, hv2 _ rfl, .inr ⟨by omega, rfl, rfl⟩⟩, by omega⟩
      · repeat (first | (simp only [go_sem, Nat.reduceEqDiff, Nat.reduceAdd, Nat.reduceSub, Nat.reduceMul, Nat.reduceLeDiff, Nat.reduceLT, reduceIte, reduceCtorEq, Nat.succ_ne_zero, elemsC, Int.reduceToNat, Nat.reducePow, i5, i7, i9, i8, iO]) | (simp (disch := (first | omega | (simp only [AL, List.length_map]; omega))) only [AR, AL, ifT, ifF, take_all, List.length_cons, List.length_nil, Int.reduceToNat, Int.reducePow, Nat.reducePow, i5, i7, i9, i8, iO]) | (refine wk_intro (by kernel_rfl) ?_) | (refine vp_draw (l := []) (by kernel_rfl) ?_))
        repeat (first | (simp only [go_sem, Nat.reduceEqDiff, Nat.reduceAdd, Nat.reduceSub, Nat.reduceMul, Nat.reduceLeDiff, Nat.reduceLT, reduceIte, reduceCtorEq, Nat.succ_ne_zero, elemsC, Int.reduceToNat, Nat.reducePow, i5, i7, i9, i8, iO, hj, hw64, hk64, N0]) | (simp (disch := (first | omega | (simp only [AL, List.length_map]; omega))) only [AR, AL, ifT, ifF, take_all, List.length_cons, List.length_nil, Int.reduceToNat, Int.reducePow, Nat.reducePow, i5, i7, i9, i8, iO, hj, hw64, hk64, N0]) | (refine wk_intro (by kernel_rfl) ?_) | (refine vp_draw (l := []) (by kernel_rfl) ?_) | (refine vf_of (by first | exact a1 | exact a2) ?_))
        exact ⟨⟨c ++ [(x + 4294967296 * y) / 2 ^ k % 4294967296], i + 1, rfl, by rw [List.length_append, hcl]; rfl, okL_append.2 ⟨hc, okL_cons.2 ⟨hz, okL_nil⟩⟩, by omega, hv2 _ rfl, .inr ⟨by omega, rfl, by rw [List.map_append]; rfl⟩⟩, by omega⟩
theorem ref1_shl {N m : Nat} (h : (lim N).length ≤ 1073741824) (hm : m ≤ 4096) : Go.Ev.Fn CX 137 [natV (lim N), .int .i64 (m : Int)] (natV (lim (N * 2 ^ m))) := by
  have := ref1_shift_up (lim N) m (okL_lim _) h _ rfl hm
  rwa [wth_lim] at this
theorem ref1_shr {N m : Nat} (h : (lim N).length ≤ 1073741824) (hm : m ≤ 4096) (h0 : 0 < m) : Go.Ev.Fn CX 137 [natV (lim N), .int .i64 (-(m : Int))] (natV (lim (N / 2 ^ m))) := by
  have := ref1_shift_down (lim N) m (okL_lim _) h _ rfl hm h0
  rwa [wth_lim] at this
end Go.Proofs.YtemnjalaincijaaGreat
namespace Go.Proofs.YtemnjalaincijaaGreat
open Go.Ev
theorem bne_dec (z : Int) : (z != 0) = decide (z ≠ 0) := by by_cases h : z = 0 <;> simp [h]
theorem cmpN_ne {a b : Nat} : (cmpN a b != 0) = decide (a ≠ b) := by
  rw [bne_dec]
  exact decide_eq_decide.2 (by unfold cmpN; split <;> (try split) <;> omega)
theorem ref4_Less (a : Int) (n : Nat) (ha : (lim a.natAbs).length ≤ 100000) (hn : n ≤ 4096) (h0 : 0 < n) : Go.Ev.Fn CX 141 [intV a, .int .i64 (n : Int)] (intV (a / ((2 ^ n : Nat) : Int))) := by
  have hd : 2 ^ n ≠ 0 := Nat.ne_of_gt (Nat.pow_pos (by omega))
  have s1 := ref1_shr (N := a.natAbs) (m := n) (by omega) hn h0
  have l := lim_len_mono (Nat.div_le_self a.natAbs (2 ^ n))
  have l1 := lim_len1
  have s2 := ref1_AddL (N := a.natAbs / 2 ^ n) (D := 1) (by omega) (by omega)
  rw [lim_one] at s2
  have s3 := ref1_shl (N := a.natAbs / 2 ^ n) (m := n) (by omega) hn
  have l3 := lim_len_shl (a := a.natAbs / 2 ^ n) (n := n)
  have c := ref1_CmpL (N := a.natAbs / 2 ^ n * 2 ^ n) (D := a.natAbs) (by omega) (by omega)
  have e2 : (cmpN (a.natAbs / 2 ^ n * 2 ^ n) a.natAbs != 0) = decide (a.natAbs % 2 ^ n ≠ 0) := by
    rw [cmpN_ne]
    refine decide_eq_decide.2 ?_
    have := Nat.div_add_mod a.natAbs (2 ^ n)
    rw [Nat.mul_comm (2 ^ n)] at this
    omega
  have hl := fun (n : Nat) => lenpos (n := n)
  have l5 := lim_len_add (a := a.natAbs / 2 ^ n) (b := 1) (L := 100000) (by omega) (by omega)
  have e := fall_eq (a := a) hd
  have e0 : (0 : Int) - (n : Int) = -(n : Int) := by omega
  generalize 2 ^ n = D at *
  by_cases h : a < 0
  · by_cases h2 : a.natAbs % D = 0
    · rw [if_neg (fun g => g.2 h2)] at e
      rw [e, sgn_iv, decide_eq_true h]
      rw [h2] at e2
      have h0' : decide ((0 : Nat) ≠ 0) = false := rfl
      rw [h0'] at e2
      generalize cmpN (a.natAbs / D * D) a.natAbs = z at *
      generalize a.natAbs / D * D = y at *
      generalize a.natAbs / D = x at *
      refine Go.Ev.Fn.intro (fn := Tryz.f141) (body := (Tryz.f141).body.get!) (by kernel_rfl) (by kernel_rfl) (by kernel_rfl) (fun _ => rfl) (Nat.le_of_ble_eq_true (by kernel_rfl)) ?_; unfold Tryz.f141; simp only [Option.get!_some]
      repeat (first | (simp only [go_sem, Nat.reduceEqDiff, Nat.reduceAdd, Nat.reduceSub, Nat.reduceMul, Nat.reduceLeDiff, Nat.reduceLT, reduceIte, reduceCtorEq, Nat.succ_ne_zero, elemsC, Int.reduceToNat, Nat.reducePow, hl, e0, Bool.true_and, e2]) | (simp (disch := (first | omega | (simp only [AL, List.length_map]; omega))) only [AR, AL, ifT, ifF, take_all, List.length_cons, List.length_nil, Int.reduceToNat, Int.reducePow, Nat.reducePow, hl, e0, Bool.true_and, e2]) | (refine wk_intro (by kernel_rfl) ?_) | (refine vp_draw (id := 2) (l := [5, 16, 18]) (by kernel_rfl) ?_) | (refine vf_of (by first | exact s1 | exact s3 | exact c) ?_))
    · rw [if_pos ⟨h, h2⟩] at e
      rw [e, show -((a.natAbs / D + 1 : Nat) : Int) = sgn true (a.natAbs / D + 1) from rfl, sgn_iv]
      rw [decide_eq_true h2] at e2
      generalize cmpN (a.natAbs / D * D) a.natAbs = z at *
      generalize a.natAbs / D * D = y at *
      generalize a.natAbs / D + 1 = x' at *
      generalize a.natAbs / D = x at *
      refine Go.Ev.Fn.intro (fn := Tryz.f141) (body := (Tryz.f141).body.get!) (by kernel_rfl) (by kernel_rfl) (by kernel_rfl) (fun _ => rfl) (Nat.le_of_ble_eq_true (by kernel_rfl)) ?_; unfold Tryz.f141; simp only [Option.get!_some]
      repeat (first | (simp only [go_sem, Nat.reduceEqDiff, Nat.reduceAdd, Nat.reduceSub, Nat.reduceMul, Nat.reduceLeDiff, Nat.reduceLT, reduceIte, reduceCtorEq, Nat.succ_ne_zero, elemsC, Int.reduceToNat, Nat.reducePow, hl, e0, Bool.true_and, e2]) | (simp (disch := (first | omega | (simp only [AL, List.length_map]; omega))) only [AR, AL, ifT, ifF, take_all, List.length_cons, List.length_nil, Int.reduceToNat, Int.reducePow, Nat.reducePow, hl, e0, Bool.true_and, e2]) | (refine wk_intro (by kernel_rfl) ?_) | (refine vp_draw (id := 2) (l := [5, 16, 18]) (by kernel_rfl) ?_) | (refine vf_of (by first | exact s1 | exact s3 | exact c | exact s2) ?_))
  · rw [if_neg (fun g => h g.1)] at e
    rw [e, sgn_iv, decide_eq_false h]
    generalize a.natAbs / D = x at *
    refine Go.Ev.Fn.intro (fn := Tryz.f141) (body := (Tryz.f141).body.get!) (by kernel_rfl) (by kernel_rfl) (by kernel_rfl) (fun _ => rfl) (Nat.le_of_ble_eq_true (by kernel_rfl)) ?_; unfold Tryz.f141; simp only [Option.get!_some]
    repeat (first | (simp only [go_sem, Nat.reduceEqDiff, Nat.reduceAdd, Nat.reduceSub, Nat.reduceMul, Nat.reduceLeDiff, Nat.reduceLT, reduceIte, reduceCtorEq, Nat.succ_ne_zero, elemsC, Int.reduceToNat, Nat.reducePow, hl, e0, Bool.false_and]) | (simp (disch := (first | omega | (simp only [AL, List.length_map]; omega))) only [AR, AL, ifT, ifF, take_all, List.length_cons, List.length_nil, Int.reduceToNat, Int.reducePow, Nat.reducePow, hl, e0, Bool.false_and]) | (refine wk_intro (by kernel_rfl) ?_) | (refine vp_draw (id := 2) (l := [5, 16, 18]) (by kernel_rfl) ?_) | (refine vf_of (by first | exact s1) ?_))
theorem ref4_More (a : Int) (n : Nat) (ha : (lim a.natAbs).length ≤ 100000) (hn : n ≤ 4096) (h0 : 0 < n) : Go.Ev.Fn CX 160 [intV a, .int .i64 (n : Int)] (intV (cdZ a (2 ^ n))) := by
  have hd : 2 ^ n ≠ 0 := Nat.ne_of_gt (Nat.pow_pos (by omega))
  have o := ref4_Opp a (by omega)
  have f := ref4_Less (-a) n (by rw [Int.natAbs_neg]; exact ha) hn h0
  have l := lim_len_mono (abs_div_le (-a) hd)
  rw [Int.natAbs_neg a] at l
  have o2 := ref4_Opp (-a / ((2 ^ n : Nat) : Int)) (by omega)
  unfold cdZ
  generalize -a / ((2 ^ n : Nat) : Int) = y at *
  refine Go.Ev.Fn.intro (fn := Tryz.f160) (body := (Tryz.f160).body.get!) (by kernel_rfl) (by kernel_rfl) (by kernel_rfl) (fun _ => rfl) (Nat.le_of_ble_eq_true (by kernel_rfl)) ?_; unfold Tryz.f160; simp only [Option.get!_some]
  repeat (first | (simp only [go_sem, Nat.reduceEqDiff, Nat.reduceAdd, Nat.reduceSub, Nat.reduceMul, Nat.reduceLeDiff, Nat.reduceLT, reduceIte, reduceCtorEq, Nat.succ_ne_zero, elemsC, Int.reduceToNat, Nat.reducePow]) | (simp (disch := (first | omega | (simp only [AL, List.length_map]; omega))) only [AR, AL, ifT, ifF, take_all, List.length_cons, List.length_nil, Int.reduceToNat, Int.reducePow, Nat.reducePow]) | (refine wk_intro (by kernel_rfl) ?_) | (refine vf_of (by first | exact o | exact f | exact o2) ?_))
theorem mul_p2_abs (z : Int) (w : Nat) : (z * ((2 ^ w : Nat) : Int)).natAbs = z.natAbs * 2 ^ w := by rw [Int.natAbs_mul, Int.natAbs_natCast]
theorem ref4_Num {v : SV} {q : Rat} {L w : Nat} (hv : RatA v q L) (hL1 : 1 ≤ L) (hL : L ≤ 100000) (hw : w ≤ 4096) : Go.Ev.Fn CX 98 [v, .int .i64 (w : Int)] (ivV (q.num * ((2 ^ w : Nat) : Int) / (q.den : Int)) (cdZ (q.num * ((2 ^ w : Nat) : Int)) q.den)) := by
  have n1 := ref2_Norm hv (by omega)
  obtain ⟨z1, z2⟩ := szR_of hv hL1
  have s1 := ref1_shl (N := q.num.natAbs) (m := w) (by omega) hw
  have l1 := lim_len_shl (a := q.num.natAbs) (n := w)
  have hP : 0 < 2 ^ w := Nat.pow_pos (by omega)
  have ea := mul_p2_abs q.num w
  have en : decide (q.num * ((2 ^ w : Nat) : Int) < 0) = decide (q.num < 0) := decide_eq_decide.2 ⟨fun h => by
      rcases Int.lt_or_le q.num 0 with g | g
      · exact g
      · have := Int.mul_nonneg g (Int.natCast_nonneg (2 ^ w)); omega, fun h => Int.mul_neg_of_neg_of_pos h (by omega)⟩
  have f := ref4_Fall (q.num * ((2 ^ w : Nat) : Int)) q.den q.den_nz (by rw [ea]; omega) (by omega)
  have r := ref4_Rise (q.num * ((2 ^ w : Nat) : Int)) q.den q.den_nz (by rw [ea]; omega) (by omega)
  unfold intV at f r
  rw [ea, en] at f r
  obtain ⟨s, n, d, rfl, -⟩ := hv
  generalize q.num * ((2 ^ w : Nat) : Int) / (q.den : Int) = x at *
  generalize cdZ (q.num * ((2 ^ w : Nat) : Int)) q.den = y at *
  generalize q.num.natAbs * 2 ^ w = u at *
  refine Go.Ev.Fn.intro (fn := Tryz.f98) (body := (Tryz.f98).body.get!) (by kernel_rfl) (by kernel_rfl) (by kernel_rfl) (fun _ => rfl) (Nat.le_of_ble_eq_true (by kernel_rfl)) ?_; unfold Tryz.f98; simp only [Option.get!_some]
  repeat (first | (simp only [go_sem, Nat.reduceEqDiff, Nat.reduceAdd, Nat.reduceSub, Nat.reduceMul, Nat.reduceLeDiff, Nat.reduceLT, reduceIte, reduceCtorEq, Nat.succ_ne_zero, elemsC, Int.reduceToNat, Nat.reducePow]) | (simp (disch := (first | omega | (simp only [AL, List.length_map]; omega))) only [AR, AL, ifT, ifF, take_all, List.length_cons, List.length_nil, Int.reduceToNat, Int.reducePow, Nat.reducePow]) | (refine wk_intro (by kernel_rfl) ?_) | (refine vp_draw (id := 2) (l := [12]) (by kernel_rfl) ?_) | (refine vp_draw (id := 3) (l := [18, 22]) (by kernel_rfl) ?_) | (refine vf_of (by first | exact n1 | exact s1 | exact f | exact r) ?_))
section
variable {a b c d : Int} (ha : (lim a.natAbs).length ≤ 100000) (hb : (lim b.natAbs).length ≤ 100000) (hc : (lim c.natAbs).length ≤ 100000) (hd : (lim d.natAbs).length ≤ 100000)
include ha hb
theorem ref4_Sum (hc : (lim c.natAbs).length ≤ 100000) (hd : (lim d.natAbs).length ≤ 100000) : Go.Ev.Fn CX 99 [ivV a b, ivV c d] (ivV (a + c) (b + d)) := by
  have s1 := ref4_Plus a c (by omega) (by omega)
  have s2 := ref4_Plus b d (by omega) (by omega)
  generalize a + c = x at *
  generalize b + d = y at *
  refine Go.Ev.Fn.intro (fn := Tryz.f99) (body := (Tryz.f99).body.get!) (by kernel_rfl) (by kernel_rfl) (by kernel_rfl) (fun _ => rfl) (Nat.le_of_ble_eq_true (by kernel_rfl)) ?_; unfold Tryz.f99; simp only [Option.get!_some]
  repeat (first | (simp only [go_sem, Nat.reduceEqDiff, Nat.reduceAdd, Nat.reduceSub, Nat.reduceMul, Nat.reduceLeDiff, Nat.reduceLT, reduceIte, reduceCtorEq, Nat.succ_ne_zero, elemsC, Int.reduceToNat, Nat.reducePow]) | (simp (disch := (first | omega | (simp only [AL, List.length_map]; omega))) only [AR, AL, ifT, ifF, take_all, List.length_cons, List.length_nil, Int.reduceToNat, Int.reducePow, Nat.reducePow]) | (refine wk_intro (by kernel_rfl) ?_) | (refine vp_draw (id := 1) (l := []) (by kernel_rfl) ?_) | (refine vf_of (by first | exact s1 | exact s2) ?_))
theorem ref4_By (n : Nat) (h0 : 0 < n) (hn : n < 9223372036854775808) : Go.Ev.Fn CX 184 [ivV a b, .int .i64 (n : Int)] (ivV (a / (n : Int)) (cdZ b n)) := by
  have o := ref1_Of n (by omega)
  have l : (lim n).length ≤ 2 := lim_len_lt (by omega)
  have f := ref4_Fall a n (by omega) (by omega) (by omega)
  have r := ref4_Rise b n (by omega) (by omega) (by omega)
  generalize a / (n : Int) = x at *
  generalize cdZ b n = y at *
  refine Go.Ev.Fn.intro (fn := Tryz.f184) (body := (Tryz.f184).body.get!) (by kernel_rfl) (by kernel_rfl) (by kernel_rfl) (fun _ => rfl) (Nat.le_of_ble_eq_true (by kernel_rfl)) ?_; unfold Tryz.f184; simp only [Option.get!_some]
  repeat (first | (simp only [go_sem, Nat.reduceEqDiff, Nat.reduceAdd, Nat.reduceSub, Nat.reduceMul, Nat.reduceLeDiff, Nat.reduceLT, reduceIte, reduceCtorEq, Nat.succ_ne_zero, elemsC, Int.reduceToNat, Nat.reducePow]) | (simp (disch := (first | omega | (simp only [AL, List.length_map]; omega))) only [AR, AL, ifT, ifF, take_all, List.length_cons, List.length_nil, Int.reduceToNat, Int.reducePow, Nat.reducePow]) | (refine wk_intro (by kernel_rfl) ?_) | (refine vp_draw (id := 2) (l := [5, 5]) (by kernel_rfl) ?_) | (refine vf_of (by first | exact o | exact f | exact r) ?_))
theorem ref4_Wide (n : Int) (hn : -4294967296 < n ∧ n < 4294967296) : Go.Ev.Fn CX 186 [ivV a b, .int .i64 n] (ivV (a - n) (b + n)) := by
  have w1 := ref4_Whole (-n) (by omega)
  have w2 := ref4_Whole n (by omega)
  have l : (lim n.natAbs).length ≤ 1 := lim_len_one (by omega)
  have s1 := ref4_Plus a (-n) (by omega) (by rw [Int.natAbs_neg]; omega)
  have s2 := ref4_Plus b n (by omega) (by omega)
  rw [← Int.sub_eq_add_neg] at s1
  have e0 : 0 - n = -n := by omega
  generalize a - n = x at *
  generalize b + n = y at *
  refine Go.Ev.Fn.intro (fn := Tryz.f186) (body := (Tryz.f186).body.get!) (by kernel_rfl) (by kernel_rfl) (by kernel_rfl) (fun _ => rfl) (Nat.le_of_ble_eq_true (by kernel_rfl)) ?_; unfold Tryz.f186; simp only [Option.get!_some]
  repeat (first | (simp only [go_sem, Nat.reduceEqDiff, Nat.reduceAdd, Nat.reduceSub, Nat.reduceMul, Nat.reduceLeDiff, Nat.reduceLT, reduceIte, reduceCtorEq, Nat.succ_ne_zero, elemsC, Int.reduceToNat, Nat.reducePow, e0]) | (simp (disch := (first | omega | (simp only [AL, List.length_map]; omega))) only [AR, AL, ifT, ifF, take_all, List.length_cons, List.length_nil, Int.reduceToNat, Int.reducePow, Nat.reducePow, e0]) | (refine wk_intro (by kernel_rfl) ?_) | (refine vp_draw (id := 1) (l := []) (by kernel_rfl) ?_) | (refine vf_of (by first | exact w1 | exact s1 | exact w2 | exact s2) ?_))
theorem ref4_Most : Go.Ev.Fn CX 185 [ivV a b] (intV ((max a.natAbs b.natAbs : Nat) : Int)) := by
  have c := ref4_Cmp (a.natAbs : Int) (b.natAbs : Int) (by rw [Int.natAbs_natCast]; exact ha) (by rw [Int.natAbs_natCast]; exact hb)
  have q : ∀ n : Nat, intV (n : Int) = .agg [.bool false, natV (lim n)] := fun n => iv_eq (Int.natAbs_natCast n) (decide_eq_false (by omega))
  rw [q, q] at c
  rw [q]
  by_cases h : b.natAbs < a.natAbs
  · have e : decide (cmpZ (a.natAbs : Int) (b.natAbs : Int) > 0) = true := decide_eq_true (by unfold cmpZ; rw [if_neg (by omega), if_neg (by omega)]; omega)
    rw [Nat.max_eq_left (by omega)]
    generalize cmpZ (a.natAbs : Int) (b.natAbs : Int) = z at *
    refine Go.Ev.Fn.intro (fn := Tryz.f185) (body := (Tryz.f185).body.get!) (by kernel_rfl) (by kernel_rfl) (by kernel_rfl) (fun _ => rfl) (Nat.le_of_ble_eq_true (by kernel_rfl)) ?_; unfold Tryz.f185; simp only [Option.get!_some]
    repeat (first | (simp only [go_sem, Nat.reduceEqDiff, Nat.reduceAdd, Nat.reduceSub, Nat.reduceMul, Nat.reduceLeDiff, Nat.reduceLT, reduceIte, reduceCtorEq, Nat.succ_ne_zero, elemsC, Int.reduceToNat, Nat.reducePow, e]) | (simp (disch := (first | omega | (simp only [AL, List.length_map]; omega))) only [AR, AL, ifT, ifF, take_all, List.length_cons, List.length_nil, Int.reduceToNat, Int.reducePow, Nat.reducePow, e]) | (refine wk_intro (by kernel_rfl) ?_) | (refine vp_draw (id := 1) (l := []) (by kernel_rfl) ?_) | (refine vf_of (by first | exact c) ?_))
  · have e : decide (cmpZ (a.natAbs : Int) (b.natAbs : Int) > 0) = false := decide_eq_false (by unfold cmpZ; split <;> (try split) <;> omega)
    rw [Nat.max_eq_right (by omega)]
    generalize cmpZ (a.natAbs : Int) (b.natAbs : Int) = z at *
    refine Go.Ev.Fn.intro (fn := Tryz.f185) (body := (Tryz.f185).body.get!) (by kernel_rfl) (by kernel_rfl) (by kernel_rfl) (fun _ => rfl) (Nat.le_of_ble_eq_true (by kernel_rfl)) ?_; unfold Tryz.f185; simp only [Option.get!_some]
    repeat (first | (simp only [go_sem, Nat.reduceEqDiff, Nat.reduceAdd, Nat.reduceSub, Nat.reduceMul, Nat.reduceLeDiff, Nat.reduceLT, reduceIte, reduceCtorEq, Nat.succ_ne_zero, elemsC, Int.reduceToNat, Nat.reducePow, e]) | (simp (disch := (first | omega | (simp only [AL, List.length_map]; omega))) only [AR, AL, ifT, ifF, take_all, List.length_cons, List.length_nil, Int.reduceToNat, Int.reducePow, Nat.reducePow, e]) | (refine wk_intro (by kernel_rfl) ?_) | (refine vp_draw (id := 1) (l := []) (by kernel_rfl) ?_) | (refine vf_of (by first | exact c) ?_))
theorem ref4_Back (n : Nat) (hn : n ≤ 4096) (h0 : 0 < n) : Go.Ev.Fn CX 105 [ivV a b, .int .i64 (n : Int)] (ivV (a / ((2 ^ n : Nat) : Int)) (cdZ b (2 ^ n))) := by
  have s1 := ref4_Less a n ha hn h0
  have s2 := ref4_More b n hb hn h0
  generalize a / ((2 ^ n : Nat) : Int) = x at *
  generalize cdZ b (2 ^ n) = y at *
  refine Go.Ev.Fn.intro (fn := Tryz.f105) (body := (Tryz.f105).body.get!) (by kernel_rfl) (by kernel_rfl) (by kernel_rfl) (fun _ => rfl) (Nat.le_of_ble_eq_true (by kernel_rfl)) ?_; unfold Tryz.f105; simp only [Option.get!_some]
  repeat (first | (simp only [go_sem, Nat.reduceEqDiff, Nat.reduceAdd, Nat.reduceSub, Nat.reduceMul, Nat.reduceLeDiff, Nat.reduceLT, reduceIte, reduceCtorEq, Nat.succ_ne_zero, elemsC, Int.reduceToNat, Nat.reducePow]) | (simp (disch := (first | omega | (simp only [AL, List.length_map]; omega))) only [AR, AL, ifT, ifF, take_all, List.length_cons, List.length_nil, Int.reduceToNat, Int.reducePow, Nat.reducePow]) | (refine wk_intro (by kernel_rfl) ?_) | (refine vp_draw (id := 1) (l := []) (by kernel_rfl) ?_) | (refine vf_of (by first | exact s1 | exact s2) ?_))
omit hb in
theorem ref4_Rat (w : Nat) (hw : w ≤ 4096) : Go.Ev.Fn CX 131 [intV a, .int .i64 (w : Int)] (rv (mkRat a (2 ^ w))) := by
  have p := ref4_pow2 (n := w) hw
  have l := lim_len_shl (a := 1) (n := w)
  have l1 := lim_len1
  rw [Nat.one_mul] at l
  have o := ref2_OfL (s := decide (a < 0)) (n := a.natAbs) (d := 2 ^ w) (by omega) (by omega)
  rw [sgn_self] at o
  generalize 2 ^ w = D at *
  refine Go.Ev.Fn.intro (fn := Tryz.f131) (body := (Tryz.f131).body.get!) (by kernel_rfl) (by kernel_rfl) (by kernel_rfl) (fun _ => rfl) (Nat.le_of_ble_eq_true (by kernel_rfl)) ?_; unfold Tryz.f131; simp only [Option.get!_some]
  repeat (first | (simp only [go_sem, Nat.reduceEqDiff, Nat.reduceAdd, Nat.reduceSub, Nat.reduceMul, Nat.reduceLeDiff, Nat.reduceLT, reduceIte, reduceCtorEq, Nat.succ_ne_zero, elemsC, Int.reduceToNat, Nat.reducePow]) | (simp (disch := (first | omega | (simp only [AL, List.length_map]; omega))) only [AR, AL, ifT, ifF, take_all, List.length_cons, List.length_nil, Int.reduceToNat, Int.reducePow, Nat.reducePow]) | (refine wk_intro (by kernel_rfl) ?_) | (refine vp_draw (id := 1) (l := [8, 10]) (by kernel_rfl) ?_) | (refine vf_of (by first | exact p | exact o) ?_))
end
end Go.Proofs.YtemnjalaincijaaGreat
namespace Go.Proofs.YtemnjalaincijaaGreat
open Go.Ev
theorem blen_iff {x k : Nat} : blen x ≤ k ↔ x < 2 ^ k := by
  unfold blen
  by_cases h : x = 0
  · rw [if_pos h, h]
    have : 0 < 2 ^ k := Nat.pow_pos (by omega)
    omega
  · rw [if_neg h]
    have := Nat.log2_lt (n := x) (k := k) h
    omega
theorem blen_lims (N : Nat) (h : N ≠ 0) : blen N = 32 * ((lim N).length - 1) + blen ((lim N).getD ((lim N).length - 1) 0) := by
  have h0 := lim_pos h
  have ht := trimL_getD (trimL_lim N) h0
  have hw := wth_lim N
  have hok := okL_lim N
  generalize lim N = a at *
  have h1 := wth_at a (w := a.length - 1) (by omega)
  rw [List.drop_of_length_le (by omega), show wth [] = 0 from rfl, Nat.mul_zero, Nat.add_zero, hw] at h1
  have h2 := wth_lt (okL_take hok (a.length - 1))
  rw [List.length_take, Nat.min_eq_left (by omega)] at h2
  rw [show (4294967296 : Nat) = 2 ^ 32 from rfl, ← Nat.pow_mul] at h1 h2
  have hp : 0 < 2 ^ (32 * (a.length - 1)) := Nat.pow_pos (by omega)
  have h3 : N / 2 ^ (32 * (a.length - 1)) = a.getD (a.length - 1) 0 := by
    rw [h1, Nat.add_mul_div_left _ _ hp, Nat.div_eq_of_lt h2, Nat.zero_add]
  have h4 : 2 ^ (32 * (a.length - 1)) ≤ N := by
    have := Nat.mul_le_mul_left (2 ^ (32 * (a.length - 1))) (show 1 ≤ a.getD (a.length - 1) 0 by omega)
    omega
  rw [blen_shift h4, h3]
theorem nat_Bits {N : Nat} (h : (lim N).length ≤ 300000000) : Go.Ev.Fn CX 182 [natV (lim N)] (.int .i64 (blen N : Nat)) := by
  have t := nat_trim (lim N) (okL_lim N) (by omega)
  rw [wth_lim] at t
  by_cases h0 : N = 0
  · subst h0
    have e : (lim 0).length = 0 := by rw [lim_zero]; rfl
    have e2 : blen 0 = 0 := rfl
    rw [e2]
    refine Go.Ev.Fn.intro (fn := Tryz.f182) (body := (Tryz.f182).body.get!) (by kernel_rfl) (by kernel_rfl) (by kernel_rfl) (fun _ => rfl) (Nat.le_of_ble_eq_true (by kernel_rfl)) ?_; unfold Tryz.f182; simp only [Option.get!_some]
    repeat (first | (simp only [go_sem, Nat.reduceEqDiff, Nat.reduceAdd, Nat.reduceSub, Nat.reduceMul, Nat.reduceLeDiff, Nat.reduceLT, reduceIte, reduceCtorEq, Nat.succ_ne_zero, elemsC, Int.reduceToNat, Nat.reducePow]) | (simp (disch := (first | omega | (simp only [AL, List.length_map]; omega))) only [AR, AL, ifT, ifF, take_all, List.length_cons, List.length_nil, Int.reduceToNat, Int.reducePow, Nat.reducePow]) | (refine wk_intro (by kernel_rfl) ?_) | (refine vf_of (by first | exact t) ?_))
    rfl
  · have e := blen_lims N h0
    have hl := lim_pos h0
    have hg := getD_lt (okL_lim N) ((lim N).length - 1)
    have b := bits_Len32 _ hg
    have hb : blen ((lim N).getD ((lim N).length - 1) 0) ≤ 32 := blen_iff.2 hg
    rw [e]
    generalize hgx : (lim N).getD ((lim N).length - 1) 0 = x at *
    generalize hcs : lim N = cs at *
    have hi : (cs.map limb).length = cs.length := List.length_map _
    have hat : ((cs.map limb).drop (cs.length - 1)).head? = some (limb x) := by
      rw [List.head?_drop, List.getElem?_map, List.getElem?_eq_getElem (by omega)]
      rw [List.getD_eq_getElem?_getD, List.getElem?_eq_getElem (by omega)] at hgx
      rw [← hgx]; rfl
    generalize blen x = y at *
    refine Go.Ev.Fn.intro (fn := Tryz.f182) (body := (Tryz.f182).body.get!) (by kernel_rfl) (by kernel_rfl) (by kernel_rfl) (fun _ => rfl) (Nat.le_of_ble_eq_true (by kernel_rfl)) ?_; unfold Tryz.f182; simp only [Option.get!_some]
    repeat (first | (simp only [go_sem, Nat.reduceEqDiff, Nat.reduceAdd, Nat.reduceSub, Nat.reduceMul, Nat.reduceLeDiff, Nat.reduceLT, reduceIte, reduceCtorEq, Nat.succ_ne_zero, elemsC, Int.reduceToNat, Nat.reducePow, hgx]) | (simp (disch := (first | omega | (simp only [AL, List.length_map]; omega))) only [AR, AL, ifT, ifF, take_all, List.length_cons, List.length_nil, Int.reduceToNat, Int.reducePow, Nat.reducePow, hgx]) | (refine wk_intro (by kernel_rfl) ?_) | (refine vf_of (by first | exact t | exact b) ?_))
    congr 1
theorem fix_Small {a b : Nat} (h : (lim b).length ≤ 300000000) {k : Nat} (hk : k ≤ 1000) : Go.Ev.Fn CX 129 [spanV a b, .int .i64 (k : Int)] (.bool (decide (b < 2 ^ k))) := by
  have s := nat_Bits h
  rw [show decide (b < 2 ^ k) = decide (((blen b : Nat) : Int) ≤ (k : Int)) from decide_eq_decide.2 (by rw [← blen_iff]; omega)]
  generalize blen b = x at *
  refine Go.Ev.Fn.intro (fn := Tryz.f129) (body := (Tryz.f129).body.get!) (by kernel_rfl) (by kernel_rfl) (by kernel_rfl) (fun _ => rfl) (Nat.le_of_ble_eq_true (by kernel_rfl)) ?_; unfold Tryz.f129; simp only [Option.get!_some]
  repeat (first | (simp only [go_sem, Nat.reduceEqDiff, Nat.reduceAdd, Nat.reduceSub, Nat.reduceMul, Nat.reduceLeDiff, Nat.reduceLT, reduceIte, reduceCtorEq, Nat.succ_ne_zero, elemsC, Int.reduceToNat, Nat.reducePow]) | (simp (disch := (first | omega | (simp only [AL, List.length_map]; omega))) only [AR, AL, ifT, ifF, take_all, List.length_cons, List.length_nil, Int.reduceToNat, Int.reducePow, Nat.reducePow]) | (refine wk_intro (by kernel_rfl) ?_) | (refine vf_of (by first | exact s) ?_))
end Go.Proofs.YtemnjalaincijaaGreat
namespace Go.Proofs.YtemnjalaincijaaGreat
open Go.Ev
end Go.Proofs.YtemnjalaincijaaGreat
namespace Go.Proofs.YtemnjalaincijaaGreat
open Go.Ev
theorem times_le {x k : Nat} : (x + 1) * (2 * k) / (2 * k + 1) + 1 ≤ x + 2 := by
  have h : (x + 1) * (2 * k) / (2 * k + 1) ≤ x + 1 := (Nat.div_le_iff_le_mul (by omega)).2 (by have := Nat.mul_le_mul_left (x + 1) (show 2 * k ≤ 2 * k + 1 by omega); omega)
  omega
set_option maxHeartbeats 1000000 in
theorem arcs_angle {n d w A B : Nat} (hn : n ≤ 1000) (hd : d ≤ 1000) (hd0 : 0 < d) (hw : w ≤ 900) (hw0 : 0 < w) (h : angF n d w = some (A, B)) : Go.Ev.Fn CX 214 [natV (lim n), natV (lim d), .int .i64 (w : Int)] (spanV A B) := by
  unfold angF at h
  rw [pin_eq, pin_eq] at h
  have ln : (lim n).length ≤ 1 := lim_len_one (by omega)
  have ld : (lim d).length ≤ 1 := lim_len_one (by omega)
  have m1 := nat_MulL (N := n) (D := n) (by omega) (by omega)
  have m2 := nat_MulL (N := d) (D := d) (by omega) (by omega)
  have m3 := nat_MulL (N := n) (D := d) (by omega) (by omega)
  have lnn := lim_len_mul (a := n) (b := n)
  have ldd := lim_len_mul (a := d) (b := d)
  have lnd := lim_len_mul (a := n) (b := d)
  have s1 := nat_AddL (N := n * n) (D := d * d) (by omega) (by omega)
  have lsq := lim_len_add (a := n * n) (b := d * d) (L := 2) (by omega) (by omega)
  have hdd : 0 < d * d := Nat.mul_pos hd0 hd0
  have hnd : n * d ≤ n * n + d * d := by
    rcases Nat.le_total n d with g | g
    · have := Nat.mul_le_mul_right d g; omega
    · have := Nat.mul_le_mul_left n g; omega
  have o1 := fix_Of (n := n * n) (d := n * n + d * d) (w := w) (by omega) (by omega) (by omega) (by omega)
  have o2 := fix_Of (n := n * d) (d := n * n + d * d) (w := w) (by omega) (by omega) (by omega) (by omega)
  have hb1 : n * n * 2 ^ w / (n * n + d * d) < 2 ^ w := by
    rw [Nat.div_lt_iff_lt_mul (by omega), Nat.mul_comm (2 ^ w)]
    exact Nat.mul_lt_mul_of_pos_right (by omega) (Nat.pow_pos (by omega))
  have ht1 : n * d * 2 ^ w / (n * n + d * d) ≤ 2 ^ w := (Nat.div_le_iff_le_mul (by omega)).2 (by have := Nat.mul_le_mul_right (2 ^ w) hnd; rw [Nat.mul_comm (2 ^ w)]; omega)
  generalize n * n * 2 ^ w / (n * n + d * d) = b1 at *
  generalize n * d * 2 ^ w / (n * n + d * d) = t0 at *
  generalize n * n + d * d = sq at *
  generalize n * n = nn at *
  generalize d * d = dd at *
  generalize n * d = nd at *
  have hP : 0 < 2 ^ w := Nat.pow_pos (by omega)
  have lb := lim_len_p2 (n := b1) (w := w) (by omega) (by omega)
  have lb2 := lim_len_p2 (n := b1 + 1) (w := w) (by omega) (by omega)
  have big : 2 ^ w * 2048 = 2 ^ (w + 11) := by rw [Nat.pow_add]
  have big2 : 2 ^ (w + 11) * 2048 = 2 ^ (w + 22) := by rw [show w + 22 = (w + 11) + 11 by omega, Nat.pow_add 2 (w + 11) 11]
  refine Go.Ev.Fn.intro (fn := Tryz.f214) (body := (Tryz.f214).body.get!) (by kernel_rfl) (by kernel_rfl) (by kernel_rfl) (fun _ => rfl) (Nat.le_of_ble_eq_true (by kernel_rfl)) ?_; unfold Tryz.f214; simp only [Option.get!_some]
  repeat (first | (simp only [go_sem, Nat.reduceEqDiff, Nat.reduceAdd, Nat.reduceSub, Nat.reduceMul, Nat.reduceLeDiff, Nat.reduceLT, reduceIte, reduceCtorEq, Nat.succ_ne_zero, elemsC, Int.reduceToNat, Nat.reducePow]) | (simp (disch := (first | omega | (simp only [AL, List.length_map]; omega))) only [AR, AL, ifT, ifF, take_all, List.length_cons, List.length_nil, Int.reduceToNat, Int.reducePow, Nat.reducePow]) | (refine wk_intro (by kernel_rfl) ?_) | (refine vf_of (by first | exact m1 | exact m2 | exact s1 | exact o1 | exact m3 | exact o2) ?_))
  refine vp_loop_inv (fun s => s.tmp 2 = .sv (.int .i64 (w : Int)) ∧ s.tmp 6 = .ptr 6 0 0 ∧ s.obj 6 0 = some [.sl 0 [], .sl 0 []] ∧ s.tmp 8 = .ptr 8 0 0 ∧ s.obj 8 0 = some [natV (lim b1), natV (lim (b1 + 1))] ∧ s.tmp 9 = .ptr 9 0 0 ∧ s.tmp 10 = .ptr 10 0 0 ∧
      ∃ f k t1 t2 a1 a2 : Nat, s.tmp 11 = .sv (.int .u64 (k : Int)) ∧ f + k = 1001 ∧ 1 ≤ k ∧ angGo w b1 (b1 + 1) f k t1 t2 a1 a2 = some (A, B) ∧ s.obj 9 0 = some [natV (lim t1), natV (lim t2)] ∧ s.obj 10 0 = some [natV (lim a1), natV (lim a2)] ∧
        t1 ≤ t2 ∧ t2 ≤ 2 ^ w + 2 * k ∧ a1 ≤ a2 ∧ a2 ≤ k * 2 ^ (w + 11))
    (fun s => match s.tmp 11 with | .sv (.int _ i) => 1002 - i.toNat | _ => 0) ⟨rfl, rfl, rfl, rfl, rfl, rfl, rfl, 1000, 1, t0, t0 + 1, t0, t0 + 1, rfl, rfl, by omega, h, rfl, rfl, by omega, by omega, by omega, by omega⟩ ?_
  rintro s ⟨i2, i6, o6, i8, o8, i9, i10, f, k, t1, t2, a1, a2, i11, hfk, hk, hg, o9, o10, g1, g2, g3, g4⟩
  have hk2 : k * 2 ^ (w + 11) ≤ 1001 * 2 ^ (w + 11) := Nat.mul_le_mul_right _ (by omega)
  have lt2 := lim_len_p2 (n := t2) (w := w + 11) (by omega) (by omega)
  have lt1 := lim_len_p2 (n := t1) (w := w + 11) (by omega) (by omega)
  have la2 := lim_len_p2 (n := a2) (w := w + 22) (by omega) (by omega)
  have la1 := lim_len_p2 (n := a1) (w := w + 22) (by omega) (by omega)
  have sm := fix_Small (a := t1) (b := t2) (by omega) (k := 2) (by omega)
  cases f with
  | zero => simp only [angGo] at hg; cases hg
  | succ f =>
    rw [angGo] at hg
    simp only [pin_eq] at hg
    by_cases hs : t2 < 2 ^ 2
    · rw [decide_eq_true hs] at sm
      rw [if_pos (show t2 < 4 from hs)] at hg
      obtain ⟨rfl, rfl⟩ : a1 = A ∧ a2 + 8 = B := by simpa using hg
      have wd := fix_Wider (a := a1) (b := a2) (n := 8) (by omega) (by omega) (by omega)
      clear hg
      repeat (first | (simp only [go_sem, Nat.reduceEqDiff, Nat.reduceAdd, Nat.reduceSub, Nat.reduceMul, Nat.reduceLeDiff, Nat.reduceLT, reduceIte, reduceCtorEq, Nat.succ_ne_zero, elemsC, Int.reduceToNat, Nat.reducePow, i2, i6, o6, i8, o8, i9, i10, i11, o9, o10, Bool.not_true]) | (simp (disch := (first | omega | (simp only [AL, List.length_map]; omega))) only [AR, AL, ifT, ifF, take_all, List.length_cons, List.length_nil, Int.reduceToNat, Int.reducePow, Nat.reducePow, i2, i6, o6, i8, o8, i9, i10, i11, o9, o10, Bool.not_true]) | (refine wk_intro (by kernel_rfl) ?_) | (refine vf_of (by first | exact sm | exact wd) ?_))
    · rw [decide_eq_false hs] at sm
      rw [if_neg (show ¬ t2 < 4 from hs)] at hg
      have mu := fix_Mul (a := t1) (b := t2) (c := b1) (d := b1 + 1) (w := w) (by omega) (by omega) (by omega) (by omega) (by omega) hw0
      have q1 := nat_Of (2 * k) (by omega)
      have q2 := nat_Of (2 * k + 1) (by omega)
      have l1 : (lim (2 * k)).length ≤ 1 := lim_len_one (by omega)
      have l2 : (lim (2 * k + 1)).length ≤ 1 := lim_len_one (by omega)
      have hx : t2 * (b1 + 1) / 2 ^ w ≤ t2 := (Nat.div_le_iff_le_mul hP).2 (by have := Nat.mul_le_mul_left t2 (show b1 + 1 ≤ 2 ^ w by omega); omega)
      have hy : t1 * b1 / 2 ^ w ≤ t2 * (b1 + 1) / 2 ^ w := Nat.div_le_div_right (Nat.mul_le_mul g1 (by omega))
      generalize t1 * b1 / 2 ^ w = x1 at *
      generalize t2 * (b1 + 1) / 2 ^ w = x2 at *
      have lx2 := lim_len_p2 (n := x2 + 1) (w := w + 11) (by omega) (by omega)
      have lx1 := lim_len_p2 (n := x1) (w := w + 11) (by omega) (by omega)
      have ti := fix_Times (a := x1) (b := x2 + 1) (n := 2 * k) (d := 2 * k + 1) (by omega) (by omega) (by omega) (by omega) (by omega)
      have hz := times_le (x := x2) (k := k)
      have hz2 : x1 * (2 * k) / (2 * k + 1) ≤ (x2 + 1) * (2 * k) / (2 * k + 1) + 1 := Nat.le_succ_of_le (Nat.div_le_div_right (Nat.mul_le_mul_right _ (by omega)))
      generalize x1 * (2 * k) / (2 * k + 1) = u1 at *
      generalize (x2 + 1) * (2 * k) / (2 * k + 1) + 1 = u2 at *
      have lu2 := lim_len_p2 (n := u2) (w := w + 11) (by omega) (by omega)
      have lu1 := lim_len_p2 (n := u1) (w := w + 11) (by omega) (by omega)
      have ad := fix_Add (a := a1) (b := a2) (c := u1) (d := u2) (by omega) (by omega) (by omega) (by omega)
      have e1 : ((2 * k : Nat) : Int) = 2 * (k : Int) := by omega
      have e2 : ((2 * k + 1 : Nat) : Int) = 2 * (k : Int) + 1 := by omega
      rw [e1] at q1
      rw [e2] at q2
      repeat (first | (simp only [go_sem, Nat.reduceEqDiff, Nat.reduceAdd, Nat.reduceSub, Nat.reduceMul, Nat.reduceLeDiff, Nat.reduceLT, reduceIte, reduceCtorEq, Nat.succ_ne_zero, elemsC, Int.reduceToNat, Nat.reducePow, i2, i6, o6, i8, o8, i9, i10, i11, o9, o10, Bool.not_false]) | (simp (disch := (first | omega | (simp only [AL, List.length_map]; omega))) only [AR, AL, ifT, ifF, take_all, List.length_cons, List.length_nil, Int.reduceToNat, Int.reducePow, Nat.reducePow, i2, i6, o6, i8, o8, i9, i10, i11, o9, o10, Bool.not_false]) | (refine wk_intro (by kernel_rfl) ?_) | (refine vf_of (by first | exact sm | exact mu | exact q1 | exact q2 | exact ti | exact ad) ?_))
      exact ⟨⟨f, k + 1, u1, u2, a1 + u1, a2 + u2, rfl, by omega, by omega, hg, rfl, rfl, by omega, by omega, by omega, by rw [Nat.add_mul, Nat.one_mul]; omega⟩, by omega⟩
theorem fix_Certain1 {p sp lo hi : Nat} {f : FuncId} (hf : Go.Ev.Fn CX f [.int .i64 ((p + sp : Nat) : Int)] (spanV lo hi)) (hlo : (lim lo).length ≤ 1000) (hhi : (lim hi).length ≤ 1000) (hp : p ≤ 10000) (hsp : sp ≤ 1000) (hs0 : 0 < sp) (hc : lo / 2 ^ sp = (hi - 1) / 2 ^ sp) :
    Go.Ev.Fn CX 117 [.int .i64 (p : Int), .int .i64 (sp : Int), .fn f []] (ballR (mkRat ((lo / 2 ^ sp : Nat) : Int) (2 ^ p)) (mkRat ((lo / 2 ^ sp + 1 : Nat) : Int) (2 ^ p))) := by
  have fl := fix_Floor (a := lo) (b := hi) (w := p + sp) (p := p) (by omega) (by omega) (by omega) (by omega)
  rw [Nat.add_sub_cancel_left, decide_eq_true hc] at fl
  have o := fix_One
  have l1 := lim_len1
  have sh := fix_shl (a := 1) (m := p) (by omega) (by omega)
  have lp := lim_len_shl (a := 1) (n := p)
  rw [Nat.one_mul] at sh lp
  have ll := lim_len_mono (Nat.div_le_self lo (2 ^ sp))
  have n1 := fix_Next (a := lo / 2 ^ sp) (by omega)
  have l2 := lim_len_add (a := lo / 2 ^ sp) (b := 1) (L := 1000) (by omega) (by omega)
  have r1 := rat_OfL (s := false) (n := lo / 2 ^ sp) (d := 2 ^ p) (by omega) (by omega)
  have r2 := rat_OfL (s := false) (n := lo / 2 ^ sp + 1) (d := 2 ^ p) (by omega) (by omega)
  rw [show sgn false (lo / 2 ^ sp) = ((lo / 2 ^ sp : Nat) : Int) from rfl] at r1
  rw [show sgn false (lo / 2 ^ sp + 1) = ((lo / 2 ^ sp + 1 : Nat) : Int) from rfl] at r2
  generalize mkRat ((lo / 2 ^ sp : Nat) : Int) (2 ^ p) = q1 at *
  generalize mkRat ((lo / 2 ^ sp + 1 : Nat) : Int) (2 ^ p) = q2 at *
  generalize lo / 2 ^ sp + 1 = a' at *
  generalize lo / 2 ^ sp = a at *
  generalize 2 ^ p = P at *
  rw [show ((p + sp : Nat) : Int) = (p : Int) + (sp : Int) from rfl] at hf fl
  refine Go.Ev.Fn.intro (fn := Tryz.f117) (body := (Tryz.f117).body.get!) (by kernel_rfl) (by kernel_rfl) (by kernel_rfl) (fun _ => rfl) (Nat.le_of_ble_eq_true (by kernel_rfl)) ?_; unfold Tryz.f117; simp only [Option.get!_some]
  repeat (first | (simp only [go_sem, Nat.reduceEqDiff, Nat.reduceAdd, Nat.reduceSub, Nat.reduceMul, Nat.reduceLeDiff, Nat.reduceLT, reduceIte, reduceCtorEq, Nat.succ_ne_zero, elemsC, Int.reduceToNat, Nat.reducePow]) | (simp (disch := (first | omega | (simp only [AL, List.length_map]; omega))) only [AR, AL, ifT, ifF, take_all, List.length_cons, List.length_nil, Int.reduceToNat, Int.reducePow, Nat.reducePow]) | (refine wk_intro (by kernel_rfl) ?_))
  refine vp_loop_inv (fun s => s.tmp 0 = .sv (.int .i64 (p : Int)) ∧ s.tmp 2 = .sv (.fn f []) ∧ s.tmp 6 = .ptr 6 0 0 ∧ s.obj 6 0 = some [.bool false, .sl 0 [], .sl 0 [], .bool false, .sl 0 [], .sl 0 []] ∧ s.tmp 7 = .sv (.int .i64 ((p : Int) + (sp : Int)))) (fun _ => 0) ⟨rfl, rfl, rfl, rfl, rfl⟩ ?_
  rintro s ⟨i0, i2, i6, o6, i7⟩
  repeat (first | (simp only [go_sem, Nat.reduceEqDiff, Nat.reduceAdd, Nat.reduceSub, Nat.reduceMul, Nat.reduceLeDiff, Nat.reduceLT, reduceIte, reduceCtorEq, Nat.succ_ne_zero, elemsC, Int.reduceToNat, Nat.reducePow, i0, i2, i6, o6, i7]) | (simp (disch := (first | omega | (simp only [AL, List.length_map]; omega))) only [AR, AL, ifT, ifF, take_all, List.length_cons, List.length_nil, Int.reduceToNat, Int.reducePow, Nat.reducePow, i0, i2, i6, o6, i7]) | (refine wk_intro (by kernel_rfl) ?_) | (refine vf_of (by first | exact hf | exact fl | exact o | exact sh | exact r1 | exact n1 | exact r2) ?_))
theorem arcs_held (p : Int) : Go.Ev.Fn CX 189 [.int .i64 p] (.int .i64 (if p < 0 then 0 else if 512 < p then 512 else p)) := by
  by_cases h1 : p < 0
  · rw [if_pos h1]
    have e1 : (if (0 : Int) > p then (0 : Int) else p) = 0 := if_pos (by omega)
    refine Go.Ev.Fn.intro (fn := Tryz.f189) (body := (Tryz.f189).body.get!) (by kernel_rfl) (by kernel_rfl) (by kernel_rfl) (fun _ => rfl) (Nat.le_of_ble_eq_true (by kernel_rfl)) ?_; unfold Tryz.f189; simp only [Option.get!_some]
    repeat (first | (simp only [go_sem, Nat.reduceEqDiff, Nat.reduceAdd, Nat.reduceSub, Nat.reduceMul, Nat.reduceLeDiff, Nat.reduceLT, reduceIte, reduceCtorEq, Nat.succ_ne_zero, elemsC, Int.reduceToNat, Nat.reducePow, e1]) | (simp (disch := (first | omega | (simp only [AL, List.length_map]; omega))) only [AR, AL, ifT, ifF, take_all, List.length_cons, List.length_nil, Int.reduceToNat, Int.reducePow, Nat.reducePow, e1]) | (refine wk_intro (by kernel_rfl) ?_))
  · rw [if_neg h1]
    have e1 : (if (0 : Int) > p then (0 : Int) else p) = p := if_neg (by omega)
    by_cases h2 : 512 < p
    · rw [if_pos h2]
      have e2 : (if (512 : Int) < p then (512 : Int) else p) = 512 := if_pos h2
      refine Go.Ev.Fn.intro (fn := Tryz.f189) (body := (Tryz.f189).body.get!) (by kernel_rfl) (by kernel_rfl) (by kernel_rfl) (fun _ => rfl) (Nat.le_of_ble_eq_true (by kernel_rfl)) ?_; unfold Tryz.f189; simp only [Option.get!_some]
      repeat (first | (simp only [go_sem, Nat.reduceEqDiff, Nat.reduceAdd, Nat.reduceSub, Nat.reduceMul, Nat.reduceLeDiff, Nat.reduceLT, reduceIte, reduceCtorEq, Nat.succ_ne_zero, elemsC, Int.reduceToNat, Nat.reducePow, e1, e2]) | (simp (disch := (first | omega | (simp only [AL, List.length_map]; omega))) only [AR, AL, ifT, ifF, take_all, List.length_cons, List.length_nil, Int.reduceToNat, Int.reducePow, Nat.reducePow, e1, e2]) | (refine wk_intro (by kernel_rfl) ?_))
    · rw [if_neg h2]
      have e2 : (if (512 : Int) < p then (512 : Int) else p) = p := if_neg h2
      refine Go.Ev.Fn.intro (fn := Tryz.f189) (body := (Tryz.f189).body.get!) (by kernel_rfl) (by kernel_rfl) (by kernel_rfl) (fun _ => rfl) (Nat.le_of_ble_eq_true (by kernel_rfl)) ?_; unfold Tryz.f189; simp only [Option.get!_some]
      repeat (first | (simp only [go_sem, Nat.reduceEqDiff, Nat.reduceAdd, Nat.reduceSub, Nat.reduceMul, Nat.reduceLeDiff, Nat.reduceLT, reduceIte, reduceCtorEq, Nat.succ_ne_zero, elemsC, Int.reduceToNat, Nat.reducePow, e1, e2]) | (simp (disch := (first | omega | (simp only [AL, List.length_map]; omega))) only [AR, AL, ifT, ifF, take_all, List.length_cons, List.length_nil, Int.reduceToNat, Int.reducePow, Nat.reducePow, e1, e2]) | (refine wk_intro (by kernel_rfl) ?_))
theorem angGo_bd {w b1 b2 T : Nat} (hb : b1 ≤ b2) (hb2 : b2 ≤ 2 ^ w) : ∀ (f k t1 t2 a1 a2 : Nat) {A B : Nat}, angGo w b1 b2 f k t1 t2 a1 a2 = some (A, B) → t1 ≤ t2 → t2 + 2 * f ≤ T → a1 ≤ a2 → A ≤ B ∧ B ≤ a2 + f * T + 8 := by
  intro f
  induction f with
  | zero => intro k t1 t2 a1 a2 A B h; simp only [angGo] at h; cases h
  | succ f ih =>
    intro k t1 t2 a1 a2 A B h ht hT ha
    have hP : 0 < 2 ^ w := Nat.pow_pos (by omega)
    rw [angGo] at h
    simp only [pin_eq] at h
    rw [Nat.add_mul, Nat.one_mul]
    by_cases hs : t2 < 4
    · rw [if_pos hs] at h
      obtain ⟨rfl, rfl⟩ : a1 = A ∧ a2 + 8 = B := by simpa using h
      omega
    · rw [if_neg hs] at h
      have hx : t2 * b2 / 2 ^ w ≤ t2 := (Nat.div_le_iff_le_mul hP).2 (by have := Nat.mul_le_mul_left t2 hb2; omega)
      have hy : t1 * b1 / 2 ^ w ≤ t2 * b2 / 2 ^ w := Nat.div_le_div_right (Nat.mul_le_mul ht hb)
      have hz := times_le (x := t2 * b2 / 2 ^ w) (k := k)
      have hz2 : t1 * b1 / 2 ^ w * (2 * k) / (2 * k + 1) ≤ (t2 * b2 / 2 ^ w + 1) * (2 * k) / (2 * k + 1) + 1 := Nat.le_succ_of_le (Nat.div_le_div_right (Nat.mul_le_mul_right _ (by omega)))
      generalize t1 * b1 / 2 ^ w * (2 * k) / (2 * k + 1) = u1 at *
      generalize (t2 * b2 / 2 ^ w + 1) * (2 * k) / (2 * k + 1) + 1 = u2 at *
      have := ih _ _ _ _ _ h hz2 (by omega) (by omega)
      omega
theorem angF_bd {n d w A B : Nat} (hn0 : 0 < n) (hnd : n ≤ d) (hw : w ≤ 900) (hw0 : 11 ≤ w) (h : angF n d w = some (A, B)) : (lim A).length ≤ 40 ∧ (lim B).length ≤ 40 := by
  unfold angF at h
  rw [pin_eq, pin_eq] at h
  have hP : 0 < 2 ^ w := Nat.pow_pos (by omega)
  have h1 := Nat.mul_le_mul hnd hnd
  have h2 : n * d ≤ d * d := Nat.mul_le_mul_right _ hnd
  have h3 : 0 < n * n := Nat.mul_pos hn0 hn0
  have hb1 : n * n * 2 ^ w / (n * n + d * d) < 2 ^ w := by
    rw [Nat.div_lt_iff_lt_mul (by omega), Nat.mul_comm (2 ^ w)]
    exact Nat.mul_lt_mul_of_pos_right (by omega) hP
  have ht1 : n * d * 2 ^ w / (n * n + d * d) ≤ 2 ^ w := (Nat.div_le_iff_le_mul (by omega)).2 (by have := Nat.mul_le_mul_right (2 ^ w) (show n * d ≤ n * n + d * d by omega); rw [Nat.mul_comm (2 ^ w)]; omega)
  have hb := angGo_bd (T := 2 ^ w + 2001) (Nat.le_succ _) (by omega) _ _ _ _ _ _ h (by omega) (by omega) (by omega)
  have hbig : 2 ^ w * 4096 = 2 ^ (w + 12) := by rw [Nat.pow_add]
  have h11 : 2 ^ 11 ≤ 2 ^ w := Nat.pow_le_pow_right (by omega) hw0
  exact ⟨lim_len_p2 (w := w + 12) (by omega) (by omega), lim_len_p2 (w := w + 12) (by omega) (by omega)⟩
theorem arcs_pi {w A B : Nat} (hw : w ≤ 900) (hw0 : 11 ≤ w) (h : piF w = some (A, B)) : Go.Ev.Fn CX 190 [.int .i64 (w : Int)] (spanV A B) ∧ (lim A).length ≤ 100 ∧ (lim B).length ≤ 100 := by
  unfold piF at h
  split at h
  · rename_i a1 a2 b1 b2 h1 h2
    obtain ⟨rfl, rfl⟩ : a1 * 16 - (b2 * 4 + 1) = A ∧ a2 * 16 + 1 - b1 * 4 + 1 = B := by simpa using h
    clear h
    have an1 := arcs_angle (n := 1) (d := 5) (by omega) (by omega) (by omega) hw (by omega) h1
    have an2 := arcs_angle (n := 1) (d := 239) (by omega) (by omega) (by omega) hw (by omega) h2
    obtain ⟨g1, g2⟩ := angF_bd (by omega) (by omega) (by omega) hw0 h1
    obtain ⟨g3, g4⟩ := angF_bd (by omega) (by omega) (by omega) hw0 h2
    have o := fix_One
    have q5 := nat_Of 5 (by omega)
    have q239 := nat_Of 239 (by omega)
    have q16 := nat_Of 16 (by omega)
    have q4 := nat_Of 4 (by omega)
    have l16 : (lim 16).length ≤ 1 := lim_len_one (by decide)
    have l4 : (lim 4).length ≤ 1 := lim_len_one (by decide)
    have l1 := lim_len1
    have t1 := fix_Times (a := a1) (b := a2) (n := 16) (d := 1) (by omega) (by omega) (by omega) (by omega) (by omega)
    have t2 := fix_Times (a := b1) (b := b2) (n := 4) (d := 1) (by omega) (by omega) (by omega) (by omega) (by omega)
    rw [Nat.div_one, Nat.div_one] at t1 t2
    have e1 := lim_len_mul (a := a1) (b := 16)
    have e2 := lim_len_mul (a := a2) (b := 16)
    have e3 := lim_len_mul (a := b1) (b := 4)
    have e4 := lim_len_mul (a := b2) (b := 4)
    have e5 := lim_len_add (a := a2 * 16) (b := 1) (L := 50) (by omega) (by omega)
    have e6 := lim_len_add (a := b2 * 4) (b := 1) (L := 50) (by omega) (by omega)
    have sb := fix_Sub (a := a1 * 16) (b := a2 * 16 + 1) (c := b1 * 4) (d := b2 * 4 + 1) (by omega) (by omega) (by omega) (by omega)
    have e7 := lim_len_mono (Nat.sub_le (a1 * 16) (b2 * 4 + 1))
    have e8 := lim_len_mono (Nat.sub_le (a2 * 16 + 1) (b1 * 4))
    have e9 := lim_len_add (a := a2 * 16 + 1 - b1 * 4) (b := 1) (L := 60) (by omega) (by omega)
    refine ⟨?_, by omega, by omega⟩
    generalize a1 * 16 - (b2 * 4 + 1) = x1 at *
    generalize a2 * 16 + 1 - b1 * 4 + 1 = x2 at *
    generalize a2 * 16 + 1 = x3 at *
    generalize b2 * 4 + 1 = x4 at *
    generalize a1 * 16 = x5 at *
    generalize b1 * 4 = x6 at *
    refine Go.Ev.Fn.intro (fn := Tryz.f190) (body := (Tryz.f190).body.get!) (by kernel_rfl) (by kernel_rfl) (by kernel_rfl) (fun _ => rfl) (Nat.le_of_ble_eq_true (by kernel_rfl)) ?_; unfold Tryz.f190; simp only [Option.get!_some]
    repeat (first | (simp only [go_sem, Nat.reduceEqDiff, Nat.reduceAdd, Nat.reduceSub, Nat.reduceMul, Nat.reduceLeDiff, Nat.reduceLT, reduceIte, reduceCtorEq, Nat.succ_ne_zero, elemsC, Int.reduceToNat, Nat.reducePow]) | (simp (disch := (first | omega | (simp only [AL, List.length_map]; omega))) only [AR, AL, ifT, ifF, take_all, List.length_cons, List.length_nil, Int.reduceToNat, Int.reducePow, Nat.reducePow]) | (refine wk_intro (by kernel_rfl) ?_) | (refine vp_draw (id := 2) (l := [14, 15, 18, 19]) (by kernel_rfl) ?_) | (refine vf_of (by first | exact o | exact q5 | exact an1 | exact q239 | exact an2 | exact q16 | exact t1 | exact q4 | exact t2 | exact sb) ?_))
  · cases h
theorem allFrom_at {f : Nat → Bool} : ∀ {n k : Nat}, allFrom f n k = true → ∀ i, k ≤ i → i < k + n → f i = true := by
  intro n
  induction n with
  | zero => intro k _ i h1 h2; omega
  | succ n ih =>
    intro k h i h1 h2
    rw [allFrom, Bool.and_eq_true] at h
    rcases Nat.eq_or_lt_of_le h1 with h3 | h3
    · rw [← h3]; exact h.1
    · exact ih h.2 i h3 (by omega)
theorem arcs_Pi {p : Nat} (h1 : 8 ≤ p) (h2 : p < 233) : ∃ a : Nat, Go.Ev.Fn CX 149 [.int .i64 (p : Int)] (ballR (mkRat (a : Int) (2 ^ p)) (mkRat ((a + 1 : Nat) : Int) (2 ^ p))) ∧ a * 2 ^ (800 - p) ≤ rootPi * rootPi ∧ rootPi * rootPi ≤ (a + 1) * 2 ^ (800 - p) := by
  have h := allFrom_at pi_ok p h1 (by omega)
  unfold piOk at h
  split at h
  · rename_i lo hi hpi
    rw [pin_eq, Bool.and_eq_true, Bool.and_eq_true] at h
    obtain ⟨k1, k2, k3⟩ := h
    have k1 := Nat.eq_of_beq_eq_true k1
    have k2 := Nat.le_of_ble_eq_true k2
    have k3 := Nat.le_of_ble_eq_true k3
    obtain ⟨f, g1, g2⟩ := arcs_pi (by omega) (by omega) hpi
    have c := fix_Certain1 (p := p) (sp := 64) f (by omega) (by omega) (by omega) (by omega) (by omega) k1
    refine ⟨lo / 2 ^ 64, ?_, k2, k3⟩
    have hh := arcs_held (p : Int)
    rw [if_neg (by omega), if_neg (by omega)] at hh
    generalize mkRat ((lo / 2 ^ 64 : Nat) : Int) (2 ^ p) = q1 at *
    generalize mkRat ((lo / 2 ^ 64 + 1 : Nat) : Int) (2 ^ p) = q2 at *
    clear k2 k3 f hpi
    refine Go.Ev.Fn.intro (fn := Tryz.f149) (body := (Tryz.f149).body.get!) (by kernel_rfl) (by kernel_rfl) (by kernel_rfl) (fun _ => rfl) (Nat.le_of_ble_eq_true (by kernel_rfl)) ?_; unfold Tryz.f149; simp only [Option.get!_some]
    repeat (first | (simp only [go_sem, Nat.reduceEqDiff, Nat.reduceAdd, Nat.reduceSub, Nat.reduceMul, Nat.reduceLeDiff, Nat.reduceLT, reduceIte, reduceCtorEq, Nat.succ_ne_zero, elemsC, Int.reduceToNat, Nat.reducePow]) | (simp (disch := (first | omega | (simp only [AL, List.length_map]; omega))) only [AR, AL, ifT, ifF, take_all, List.length_cons, List.length_nil, Int.reduceToNat, Int.reducePow, Nat.reducePow]) | (refine wk_intro (by kernel_rfl) ?_) | (refine vf_of (by first | exact hh | exact c) ?_))
  · cases h
end Go.Proofs.YtemnjalaincijaaGreat
namespace Go.Proofs.YtemnjalaincijaaGreat
open Go.Ev
theorem four_mul_le (x y : Nat) : 4 * (x * y) ≤ (x + y) * (x + y) := by
  rcases Nat.le_total x y with h | h
  · obtain ⟨k, rfl⟩ := Nat.exists_eq_add_of_le h
    have : (x + (x + k)) * (x + (x + k)) = 4 * (x * (x + k)) + k * k := by grind
    omega
  · obtain ⟨k, rfl⟩ := Nat.exists_eq_add_of_le h
    have : (y + k + y) * (y + k + y) = 4 * ((y + k) * y) + k * k := by grind
    omega
theorem newton_up {a x : Nat} (hx : 0 < x) : a < ((x + a / x) / 2 + 1) * ((x + a / x) / 2 + 1) := by
  have h1 : a < x * (a / x + 1) := by
    have := Nat.div_add_mod a x
    have := Nat.mod_lt a hx
    rw [Nat.mul_add, Nat.mul_one]; omega
  have h2 := four_mul_le x (a / x + 1)
  generalize a / x = q at *
  have h3 : x + (q + 1) ≤ 2 * ((x + q) / 2 + 1) := by omega
  have h4 := Nat.mul_le_mul h3 h3
  generalize (x + q) / 2 + 1 = m at *
  have h5 : 2 * m * (2 * m) = 4 * (m * m) := by grind
  omega
theorem newton_stop {a x : Nat} (hx : 0 < x) (h : x ≤ (x + a / x) / 2) : x * x ≤ a := by
  have h1 : x ≤ a / x := by omega
  have h2 := Nat.mul_le_mul_left x h1
  have h3 := Nat.mul_div_le a x
  omega
def vN (v : SV) : Nat := match decV v with
  | some xs => wth xs
  | none => 0
theorem vN_lim {x : Nat} (h : (lim x).length ≤ 1073741824) : vN (natV (lim x)) = x := by
  unfold vN
  rw [decV_nat (okL_lim x) h]
  exact wth_lim x
theorem lim_p32 (n : Nat) : lim (4294967296 ^ n) = List.replicate n 0 ++ [1] := by
  have h := lim_unique (xs := List.replicate n 0 ++ [1]) (okL_append.2 ⟨okL_replicate _, by simp [okL]⟩) (.inr ⟨_, 1, rfl, by decide⟩)
  rw [wth_append, wth_replicate, List.length_replicate, Nat.zero_add, show wth [1] = 1 from rfl, Nat.mul_one] at h
  exact h.symm
theorem set_last (n : Nat) : ((List.replicate (n + 1) 0).set n 1 : List Nat) = List.replicate n 0 ++ [1] := by
  rw [List.replicate_succ', List.set_append_right _ _ (by simp), List.length_replicate, Nat.sub_self]
  rfl
set_option maxHeartbeats 1000000 in
theorem root_Int {a : Nat} (h : (lim a).length ≤ 1000) : Go.Ev.Fn CX 212 [natV (lim a)] (natV (lim (rtN a))) := by
  have b := nat_Bits (N := a) (by omega)
  have hb : a < 2 ^ blen a := blen_iff.1 (Nat.le_refl _)
  by_cases h0 : a = 0
  · subst h0
    have e : rtN 0 = 0 := (rtN_eq (a := 0) (r := 0) (by omega) (by omega)).symm
    rw [e, lim_zero]
    rw [lim_zero, show blen 0 = 0 from rfl] at b
    refine Go.Ev.Fn.intro (fn := Tryz.f212) (body := (Tryz.f212).body.get!) (by kernel_rfl) (by kernel_rfl) (by kernel_rfl) (fun _ => rfl) (Nat.le_of_ble_eq_true (by kernel_rfl)) ?_; unfold Tryz.f212; simp only [Option.get!_some]
    repeat (first | (simp only [go_sem, Nat.reduceEqDiff, Nat.reduceAdd, Nat.reduceSub, Nat.reduceMul, Nat.reduceLeDiff, Nat.reduceLT, reduceIte, reduceCtorEq, Nat.succ_ne_zero, elemsC, Int.reduceToNat, Nat.reducePow]) | (simp (disch := (first | omega | (simp only [AL, List.length_map]; omega))) only [AR, AL, ifT, ifF, take_all, List.length_cons, List.length_nil, Int.reduceToNat, Int.reducePow, Nat.reducePow]) | (refine wk_intro (by kernel_rfl) ?_) | (refine vf_of (by first | exact b) ?_))
    rfl
  have hB0 : blen a ≠ 0 := fun e => by rw [e] at hb; omega
  have hBl : blen a ≤ 32000 := by
    obtain ⟨K, hK⟩ : ∃ K : Nat, K = 32000 := ⟨_, rfl⟩
    rw [← hK]
    refine blen_iff.2 (Nat.lt_of_lt_of_le lim_len_pow ?_)
    rw [show (4294967296 : Nat) = 2 ^ 32 from rfl, ← Nat.pow_mul]
    exact Nat.pow_le_pow_right (by omega) (by omega)
  generalize blen a = B at *
  have ha0 : a < 4294967296 ^ (B / 64 + 1) * 4294967296 ^ (B / 64 + 1) := by
    refine Nat.lt_of_lt_of_le hb ?_
    rw [← Nat.pow_add, show (4294967296 : Nat) = 2 ^ 32 from rfl, ← Nat.pow_mul]
    exact Nat.pow_le_pow_right (by omega) (by omega)
  have l0 := lim_p32 (B / 64 + 1)
  have hn : B / 64 + 1 ≤ 501 := by omega
  have tq : (B : Int).tdiv 64 = ((B / 64 : Nat) : Int) := _root_.id rfl
  have sl := set_last (B / 64 + 1)
  rw [← l0] at sl
  have x0pos : 0 < 4294967296 ^ (B / 64 + 1) := Nat.pow_pos (by omega)
  have ll : (lim (4294967296 ^ (B / 64 + 1))).length = B / 64 + 2 := by rw [l0]; simp
  have wp := wth_lim (4294967296 ^ (B / 64 + 1))
  generalize 4294967296 ^ (B / 64 + 1) = x0 at *
  -- one round
  have round : ∀ x, 0 < x → (lim x).length ≤ 1000 → Go.Ev.Fn CX 174 [natV (lim a), natV (lim x)] (.tup [natV (lim (a / x)), natV (lim (a % x)), .bool true]) ∧ Go.Ev.Fn CX 154 [natV (lim x), natV (lim (a / x))] (natV (lim (x + a / x))) ∧
      Go.Ev.Fn CX 179 [natV (lim (x + a / x)), .int .i64 (-1)] (natV (lim ((x + a / x) / 2))) ∧ Go.Ev.Fn CX 205 [natV (lim ((x + a / x) / 2)), natV (lim x)] (.int .i64 (cmpN ((x + a / x) / 2) x)) := by
    intro x hx hl
    have l1 := lim_len_mono (Nat.div_le_self a x)
    have l2 := lim_len_add (a := x) (b := a / x) (L := 1000) (by omega) (by omega)
    have l3 := lim_len_mono (Nat.div_le_self (x + a / x) 2)
    have s := nat_shr (N := x + a / x) (m := 1) (by omega) (by omega) (by omega)
    rw [Nat.pow_one] at s
    exact ⟨nat_DivL (by omega) (by omega) (by omega), nat_AddL (by omega) (by omega), s, nat_CmpL (by omega) (by omega)⟩
  have tr : ∀ x, (lim x).length ≤ 1000 → Go.Ev.Fn CX 172 [natV (lim x)] (natV (lim x)) := by
    intro x hl
    have := nat_Trim (lim x) (okL_lim x) (by omega)
    rwa [wth_lim] at this
  have tn : (((B / 64 : Nat) : Int) + 2).toNat = B / 64 + 2 := by omega
  refine Go.Ev.Fn.intro (fn := Tryz.f212) (body := (Tryz.f212).body.get!) (by kernel_rfl) (by kernel_rfl) (by kernel_rfl) (fun _ => rfl) (Nat.le_of_ble_eq_true (by kernel_rfl)) ?_; unfold Tryz.f212; simp only [Option.get!_some]
  repeat (first | (simp only [go_sem, Nat.reduceEqDiff, Nat.reduceAdd, Nat.reduceSub, Nat.reduceMul, Nat.reduceLeDiff, Nat.reduceLT, reduceIte, reduceCtorEq, Nat.succ_ne_zero, elemsC, Int.reduceToNat, Nat.reducePow, tq, tn]) | (simp (disch := (first | omega | (simp only [AL, List.length_map]; omega))) only [AR, AL, ifT, ifF, take_all, List.length_cons, List.length_nil, Int.reduceToNat, Int.reducePow, Nat.reducePow, tq, tn]) | (refine wk_intro (by kernel_rfl) ?_) | (refine vf_of (by first | exact b) ?_))
  have hstep : ∀ x, 0 < x → a < (x + 1) * (x + 1) → ∀ y, y = (x + a / x) / 2 → ¬ x ≤ y → 0 < y ∧ a < (y + 1) * (y + 1) ∧ y < x := by
    rintro x hx - y rfl hxy
    have := newton_up (a := a) hx
    refine ⟨?_, this, by omega⟩
    rcases Nat.eq_zero_or_pos ((x + a / x) / 2) with e | e
    · rw [e] at this; omega
    · exact e
  refine vp_loop_inv (fun s => s.tmp 0 = .sv (natV (lim a)) ∧ ∃ x : Nat, 0 < x ∧ (lim x).length ≤ 600 ∧ x ≤ x0 ∧ a < (x + 1) * (x + 1) ∧ (s.tmp 3 = .sv (natV (lim x)) ∨ x = x0 ∧ s.tmp 3 = .ref 15 0 1 0 (B / 64 + 2) ∧ s.obj 15 0 = some ((lim x0).map limb)))
    (fun s => match s.tmp 3 with | .sv v => vN v | _ => x0 + 1) ?_ ?_
  · refine ⟨rfl, x0, x0pos, by omega, Nat.le_refl _, by have := Nat.mul_le_mul (show x0 ≤ x0 + 1 by omega) (show x0 ≤ x0 + 1 by omega); omega, .inr ⟨rfl, by first | rfl | (rw [← tn]; rfl), ?_⟩⟩
    refine (?_ : some (List.map limb (List.take (B / 64 + 2 - 1) (List.replicate (B / 64 + 2) 0)) ++ [SV.int IntKind.u32 1] ++ List.map limb (List.drop (B / 64 + 2 - 1 + 1) (List.replicate (B / 64 + 2) 0))) = _)
    rw [l0, List.take_replicate, List.drop_replicate, Nat.min_eq_left (by omega), show B / 64 + 2 - (B / 64 + 2 - 1 + 1) = 0 by omega, show B / 64 + 2 - 1 = B / 64 + 1 by omega, List.map_append, List.replicate_zero, List.map_nil, List.append_nil]
    rfl
  rintro s ⟨i0, x, hx, lx, hxx, hax, i3⟩
  obtain ⟨r1, r2, r3, r4⟩ := round x hx (by omega)
  have hst := hstep x hx hax _ rfl
  have e1 : decide (cmpN ((x + a / x) / 2) x ≥ 0) = decide (x ≤ (x + a / x) / 2) := decide_eq_decide.2 (by unfold cmpN; split <;> (try split) <;> omega)
  have hstop := newton_stop (a := a) (x := x) hx
  have t1 := tr x (by omega)
  have l1 := lim_len_mono (Nat.div_le_self (x + a / x) 2)
  generalize (x + a / x) / 2 = y at *
  generalize x + a / x = u at *
  generalize a / x = q at *
  generalize cmpN y x = z at *
  rcases i3 with i3 | ⟨rfl, i3, o3⟩
  · by_cases hle : x ≤ y
    · rw [decide_eq_true hle] at e1
      obtain rfl := rtN_eq (hstop hle) hax
      repeat (first | (simp only [go_sem, Nat.reduceEqDiff, Nat.reduceAdd, Nat.reduceSub, Nat.reduceMul, Nat.reduceLeDiff, Nat.reduceLT, reduceIte, reduceCtorEq, Nat.succ_ne_zero, elemsC, Int.reduceToNat, Nat.reducePow, i0, i3, e1]) | (simp (disch := (first | omega | (simp only [AL, List.length_map]; omega))) only [AR, AL, ifT, ifF, take_all, List.length_cons, List.length_nil, Int.reduceToNat, Int.reducePow, Nat.reducePow, i0, i3, e1]) | (refine wk_intro (by kernel_rfl) ?_) | (refine vf_of (by first | exact r1 | exact r2 | exact r3 | exact r4 | exact t1) ?_))
    · rw [decide_eq_false hle] at e1
      obtain ⟨y1, y2, y3⟩ := hst hle
      repeat (first | (simp only [go_sem, Nat.reduceEqDiff, Nat.reduceAdd, Nat.reduceSub, Nat.reduceMul, Nat.reduceLeDiff, Nat.reduceLT, reduceIte, reduceCtorEq, Nat.succ_ne_zero, elemsC, Int.reduceToNat, Nat.reducePow, i0, i3, e1]) | (simp (disch := (first | omega | (simp only [AL, List.length_map]; omega))) only [AR, AL, ifT, ifF, take_all, List.length_cons, List.length_nil, Int.reduceToNat, Int.reducePow, Nat.reducePow, i0, i3, e1]) | (refine wk_intro (by kernel_rfl) ?_) | (refine vf_of (by first | exact r1 | exact r2 | exact r3 | exact r4) ?_))
      exact ⟨⟨y, y1, Nat.le_trans (lim_len_mono (Nat.le_of_lt y3)) lx, by omega, y2, .inl rfl⟩, by rw [vN_lim (by have := lim_len_mono (Nat.le_of_lt y3); omega), vN_lim (by omega)]; exact y3⟩
  · have hle : ¬ x ≤ y := fun g => by have := hstop g; have := ha0; omega
    rw [decide_eq_false hle] at e1
    obtain ⟨y1, y2, y3⟩ := hst hle
    have f1 : Go.Ev.Fn CX 174 [natV (lim a), .sl (B / 64 + 2) ((lim x).map limb)] (.tup [natV (lim q), natV (lim (a % x)), .bool true]) := by rw [← ll]; exact r1
    have f2 : Go.Ev.Fn CX 154 [.sl (B / 64 + 2) ((lim x).map limb), natV (lim q)] (natV (lim u)) := by rw [← ll]; exact r2
    have f4 : Go.Ev.Fn CX 205 [natV (lim y), .sl (B / 64 + 2) ((lim x).map limb)] (.int .i64 z) := by rw [← ll]; exact r4
    have hlm : ((lim x).map limb).length = B / 64 + 2 := by rw [List.length_map, ll]
    have htk : ((lim x).map limb).take (B / 64 + 2) = (lim x).map limb := List.take_of_length_le (by omega)
    generalize ((lim x).map limb) = cs at *
    repeat (first | (simp only [go_sem, Nat.reduceEqDiff, Nat.reduceAdd, Nat.reduceSub, Nat.reduceMul, Nat.reduceLeDiff, Nat.reduceLT, reduceIte, reduceCtorEq, Nat.succ_ne_zero, elemsC, Int.reduceToNat, Nat.reducePow, i0, i3, o3, htk, hlm, List.drop_zero, N0, Nat.mul_one, e1]) | (simp (disch := (first | omega | (simp only [AL, List.length_map]; omega))) only [AR, AL, ifT, ifF, take_all, List.length_cons, List.length_nil, Int.reduceToNat, Int.reducePow, Nat.reducePow, i0, i3, o3, htk, hlm, List.drop_zero, N0, Nat.mul_one, e1]) | (refine wk_intro (by kernel_rfl) ?_) | (refine vf_of (by first | exact f1 | exact f2 | exact r3 | exact f4) ?_))
    exact ⟨⟨y, y1, Nat.le_trans (lim_len_mono (Nat.le_of_lt y3)) lx, by omega, y2, .inl rfl⟩, by rw [vN_lim (by have := lim_len_mono (Nat.le_of_lt y3); omega)]; omega⟩
theorem root_whole {a : Nat} (h : (lim a).length ≤ 1000) : Go.Ev.Fn CX 226 [natV (lim a)] (.tup [natV (lim (rtN a)), .bool (decide (rtN a * rtN a = a))]) := by
  have r := root_Int h
  have l := lim_len_mono (rtN_self a)
  have m := nat_MulL (N := rtN a) (D := rtN a) (by omega) (by omega)
  have l2 := lim_len_mono (rtN_le a)
  have c := nat_CmpL (N := rtN a * rtN a) (D := a) (by omega) (by omega)
  have e : (cmpN (rtN a * rtN a) a == 0) = decide (rtN a * rtN a = a) := by
    rw [show (cmpN (rtN a * rtN a) a == 0) = decide (cmpN (rtN a * rtN a) a = 0) from by by_cases h : cmpN (rtN a * rtN a) a = 0 <;> simp [h]]
    exact decide_eq_decide.2 (by unfold cmpN; split <;> (try split) <;> omega)
  rw [← e]
  generalize cmpN (rtN a * rtN a) a = z at *
  generalize rtN a * rtN a = y at *
  generalize rtN a = x at *
  refine Go.Ev.Fn.intro (fn := Tryz.f226) (body := (Tryz.f226).body.get!) (by kernel_rfl) (by kernel_rfl) (by kernel_rfl) (fun _ => rfl) (Nat.le_of_ble_eq_true (by kernel_rfl)) ?_; unfold Tryz.f226; simp only [Option.get!_some]
  repeat (first | (simp only [go_sem, Nat.reduceEqDiff, Nat.reduceAdd, Nat.reduceSub, Nat.reduceMul, Nat.reduceLeDiff, Nat.reduceLT, reduceIte, reduceCtorEq, Nat.succ_ne_zero, elemsC, Int.reduceToNat, Nat.reducePow]) | (simp (disch := (first | omega | (simp only [AL, List.length_map]; omega))) only [AR, AL, ifT, ifF, take_all, List.length_cons, List.length_nil, Int.reduceToNat, Int.reducePow, Nat.reducePow]) | (refine wk_intro (by kernel_rfl) ?_) | (refine vf_of (by first | exact r | exact m | exact c) ?_))
theorem szR_nat {n d L : Nat} (hn : (lim n).length ≤ L) (hd : (lim d).length ≤ L) (hL : 1 ≤ L) : szR (mkRat (n : Int) d) L := szR_mk (s := false) hn hd hL
theorem natAbs_num {q : Rat} (h : 0 ≤ q) : (q.num.natAbs : Int) = q.num := Int.natAbs_of_nonneg (Rat.num_nonneg.2 h)
theorem mk_mulP (a : Int) {b : Nat} (hb : 0 < b) : mkRat a b * (b : Rat) = (a : Rat) := by
  rw [Rat.mkRat_eq_div]
  refine Rat.div_mul_cancel ?_
  have : (0 : Rat) < (b : Rat) := by exact_mod_cast hb
  grind
theorem num_den (q : Rat) : q * (q.den : Rat) = (q.num : Rat) := by
  have h := mk_mulP q.num q.den_pos
  rwa [Rat.mkRat_self] at h
theorem root_Square {v : SV} {q : Rat} {L : Nat} (hv : RatA v q L) (hq : 0 ≤ q) (hL1 : 1 ≤ L) (hL : L ≤ 1000) :
    Go.Ev.Fn CX 211 [v] (if rtN q.num.natAbs * rtN q.num.natAbs = q.num.natAbs ∧ rtN q.den * rtN q.den = q.den then .tup [rv (mkRat (rtN q.num.natAbs : Int) (rtN q.den)), .bool true] else .tup [rv 0, .bool false]) := by
  have n1 := rat_Norm hv (by omega)
  obtain ⟨z1, z2⟩ := szR_of hv hL1
  have w1 := root_whole (a := q.num.natAbs) (by omega)
  have w2 := root_whole (a := q.den) (by omega)
  have l1 := lim_len_mono (rtN_self q.num.natAbs)
  have l2 := lim_len_mono (rtN_self q.den)
  have o := rat_OfL (s := false) (n := rtN q.num.natAbs) (d := rtN q.den) (by omega) (by omega)
  rw [show sgn false (rtN q.num.natAbs) = (rtN q.num.natAbs : Int) from rfl] at o
  have r0 := rat_Int 0 (by omega)
  rw [show ((0 : Int) : Rat) = 0 from rfl] at r0
  have hs : decide (q.num < 0) = false := decide_eq_false (by have := Rat.num_nonneg.2 hq; omega)
  obtain ⟨s, n, d, rfl, -⟩ := hv
  generalize mkRat (rtN q.num.natAbs : Int) (rtN q.den) = r at *
  by_cases h1 : rtN q.num.natAbs * rtN q.num.natAbs = q.num.natAbs
  · rw [decide_eq_true h1] at w1
    by_cases h2 : rtN q.den * rtN q.den = q.den
    · rw [decide_eq_true h2] at w2
      rw [if_pos ⟨h1, h2⟩]
      clear h1 h2
      generalize rtN q.num.natAbs = x at *
      generalize rtN q.den = y at *
      refine Go.Ev.Fn.intro (fn := Tryz.f211) (body := (Tryz.f211).body.get!) (by kernel_rfl) (by kernel_rfl) (by kernel_rfl) (fun _ => rfl) (Nat.le_of_ble_eq_true (by kernel_rfl)) ?_; unfold Tryz.f211; simp only [Option.get!_some]
      repeat (first | (simp only [go_sem, Nat.reduceEqDiff, Nat.reduceAdd, Nat.reduceSub, Nat.reduceMul, Nat.reduceLeDiff, Nat.reduceLT, reduceIte, reduceCtorEq, Nat.succ_ne_zero, elemsC, Int.reduceToNat, Nat.reducePow, hs, Bool.not_true]) | (simp (disch := (first | omega | (simp only [AL, List.length_map]; omega))) only [AR, AL, ifT, ifF, take_all, List.length_cons, List.length_nil, Int.reduceToNat, Int.reducePow, Nat.reducePow, hs, Bool.not_true]) | (refine wk_intro (by kernel_rfl) ?_) | (refine vf_of (by first | exact n1 | exact w1 | exact w2 | exact o) ?_))
    · rw [decide_eq_false h2] at w2
      rw [if_neg (fun h => h2 h.2)]
      clear h1 h2
      generalize rtN q.num.natAbs = x at *
      generalize rtN q.den = y at *
      refine Go.Ev.Fn.intro (fn := Tryz.f211) (body := (Tryz.f211).body.get!) (by kernel_rfl) (by kernel_rfl) (by kernel_rfl) (fun _ => rfl) (Nat.le_of_ble_eq_true (by kernel_rfl)) ?_; unfold Tryz.f211; simp only [Option.get!_some]
      repeat (first | (simp only [go_sem, Nat.reduceEqDiff, Nat.reduceAdd, Nat.reduceSub, Nat.reduceMul, Nat.reduceLeDiff, Nat.reduceLT, reduceIte, reduceCtorEq, Nat.succ_ne_zero, elemsC, Int.reduceToNat, Nat.reducePow, hs, Bool.not_true, Bool.not_false]) | (simp (disch := (first | omega | (simp only [AL, List.length_map]; omega))) only [AR, AL, ifT, ifF, take_all, List.length_cons, List.length_nil, Int.reduceToNat, Int.reducePow, Nat.reducePow, hs, Bool.not_true, Bool.not_false]) | (refine wk_intro (by kernel_rfl) ?_) | (refine vf_of (by first | exact n1 | exact w1 | exact w2 | exact r0) ?_))
  · rw [decide_eq_false h1] at w1
    rw [if_neg (fun h => h1 h.1)]
    clear h1
    generalize rtN q.num.natAbs = x at *
    generalize hz : decide (rtN q.den * rtN q.den = q.den) = z at *
    generalize rtN q.den = y at *
    refine Go.Ev.Fn.intro (fn := Tryz.f211) (body := (Tryz.f211).body.get!) (by kernel_rfl) (by kernel_rfl) (by kernel_rfl) (fun _ => rfl) (Nat.le_of_ble_eq_true (by kernel_rfl)) ?_; unfold Tryz.f211; simp only [Option.get!_some]
    repeat (first | (simp only [go_sem, Nat.reduceEqDiff, Nat.reduceAdd, Nat.reduceSub, Nat.reduceMul, Nat.reduceLeDiff, Nat.reduceLT, reduceIte, reduceCtorEq, Nat.succ_ne_zero, elemsC, Int.reduceToNat, Nat.reducePow, hs, Bool.not_true, Bool.not_false]) | (simp (disch := (first | omega | (simp only [AL, List.length_map]; omega))) only [AR, AL, ifT, ifF, take_all, List.length_cons, List.length_nil, Int.reduceToNat, Int.reducePow, Nat.reducePow, hs, Bool.not_true, Bool.not_false]) | (refine wk_intro (by kernel_rfl) ?_) | (refine vf_of (by first | exact n1 | exact w1 | exact w2 | exact r0) ?_))
theorem nn_mul {a b : Nat} : ((a * b : Nat) : Rat) = (a : Rat) * (b : Rat) := by exact_mod_cast rfl
theorem nat_le_rat {a b : Nat} (h : a ≤ b) : (a : Rat) ≤ (b : Rat) := by exact_mod_cast h
theorem root_Sqrt {v : SV} {q : Rat} {L p : Nat} (hv : RatA v q L) (hq : 0 ≤ q) (hL1 : 1 ≤ L) (hL : L ≤ 300) (hp : p ≤ 512) :
    ∃ lo hi : Rat, Go.Ev.Fn CX 181 [v, .int .i64 (p : Int)] (.tup [ballR lo hi, .bool true]) ∧ 0 ≤ lo ∧ lo ≤ hi ∧ lo * lo ≤ q ∧ q ≤ hi * hi ∧ (hi - lo) * p2 p ≤ 1 ∧ szR lo (L + 40) ∧ szR hi (L + 40) := by
  have n1 := rat_Norm hv (by omega)
  obtain ⟨z1, z2⟩ := szR_of hv hL1
  have sq := root_Square (RatA_rv ⟨z1, z2⟩) hq hL1 (by omega)
  have l1 := lim_len_mono (rtN_self q.num.natAbs)
  have l2 := lim_len_mono (rtN_self q.den)
  have hs : decide (q.num < 0) = false := decide_eq_false (by have := Rat.num_nonneg.2 hq; omega)
  have e1 : (if (0 : Int) > (p : Int) then (0 : Int) else (p : Int)) = (p : Int) := if_neg (by omega)
  have e2 : (if (512 : Int) < (p : Int) then (512 : Int) else (p : Int)) = (p : Int) := if_neg (by omega)
  have qn := num_den q
  have qa : ((q.num.natAbs : Nat) : Rat) = (q.num : Rat) := by
    rw [← natAbs_num hq]; rfl
  have D := q.den_pos
  have DR : (0 : Rat) < (q.den : Rat) := by exact_mod_cast D
  have erv : rv q = ratV false (lim q.num.natAbs) (lim q.den) := by show ratV (decide (q.num < 0)) _ _ = _; rw [hs]
  rw [erv] at n1 sq
  by_cases h : rtN q.num.natAbs * rtN q.num.natAbs = q.num.natAbs ∧ rtN q.den * rtN q.den = q.den
  · rw [if_pos h] at sq
    have hd0 : 0 < rtN q.den := by
      rcases Nat.eq_zero_or_pos (rtN q.den) with e | e
      · have := h.2; rw [e] at this; omega
      · exact e
    have mm := mk_mulP (rtN q.num.natAbs : Int) hd0
    have YR : (0 : Rat) < (rtN q.den : Rat) := by exact_mod_cast hd0
    have x2 : ((rtN q.num.natAbs : Nat) : Rat) * ((rtN q.num.natAbs : Nat) : Rat) = (q.num : Rat) := by rw [← nn_mul, h.1, qa]
    have y2 : ((rtN q.den : Nat) : Rat) * ((rtN q.den : Nat) : Rat) = (q.den : Rat) := by rw [← nn_mul, h.2]
    have x0 := nat_nonneg (rtN q.num.natAbs)
    have mm' : mkRat (rtN q.num.natAbs : Int) (rtN q.den) * (rtN q.den : Rat) = ((rtN q.num.natAbs : Nat) : Rat) := mm
    have r0 : (0 : Rat) ≤ mkRat (rtN q.num.natAbs : Int) (rtN q.den) := le_by YR (by rw [mm', Rat.zero_mul]; exact x0)
    have rr : mkRat (rtN q.num.natAbs : Int) (rtN q.den) * mkRat (rtN q.num.natAbs : Int) (rtN q.den) = q := by
      generalize mkRat (rtN q.num.natAbs : Int) (rtN q.den) = r at *
      generalize ((rtN q.num.natAbs : Nat) : Rat) = X at *
      generalize ((rtN q.den : Nat) : Rat) = Y at *
      have e : (r * r - q) * (Y * Y) = 0 := by
        have e3 : (r * r - q) * (Y * Y) = (r * Y) * (r * Y) - q * (Y * Y) := by grind
        rw [e3, mm', x2, y2, qn, Rat.sub_self]
      rcases Rat.mul_eq_zero.1 e with g | g
      · grind
      · rw [y2] at g; grind
    have zz : szR (mkRat (rtN q.num.natAbs : Int) (rtN q.den)) L := szR_nat (by omega) (by omega) hL1
    have bo := ball_Of (RatA_rv zz) (by omega)
    refine ⟨_, _, ?_, r0, Rat.le_refl, by rw [rr]; exact Rat.le_refl, by rw [rr]; exact Rat.le_refl, by rw [Rat.sub_self, Rat.zero_mul]; decide, szR_mono zz (by omega), szR_mono zz (by omega)⟩
    clear rr r0 zz mm
    obtain ⟨s, n, d, rfl, -⟩ := hv
    generalize mkRat (rtN q.num.natAbs : Int) (rtN q.den) = r at *
    refine Go.Ev.Fn.intro (fn := Tryz.f181) (body := (Tryz.f181).body.get!) (by kernel_rfl) (by kernel_rfl) (by kernel_rfl) (fun _ => rfl) (Nat.le_of_ble_eq_true (by kernel_rfl)) ?_; unfold Tryz.f181; simp only [Option.get!_some]
    repeat (first | (simp only [go_sem, Nat.reduceEqDiff, Nat.reduceAdd, Nat.reduceSub, Nat.reduceMul, Nat.reduceLeDiff, Nat.reduceLT, reduceIte, reduceCtorEq, Nat.succ_ne_zero, elemsC, Int.reduceToNat, Nat.reducePow, hs, e1, e2]) | (simp (disch := (first | omega | (simp only [AL, List.length_map]; omega))) only [AR, AL, ifT, ifF, take_all, List.length_cons, List.length_nil, Int.reduceToNat, Int.reducePow, Nat.reducePow, hs, e1, e2]) | (refine wk_intro (by kernel_rfl) ?_) | (refine vp_draw (id := 8) (l := [32, 35, 37]) (by kernel_rfl) ?_) | (refine vf_of (by first | exact n1 | exact sq | exact bo) ?_))
  · rw [if_neg h] at sq
    clear h
    have s1 := nat_shl (N := q.num.natAbs) (m := 2 * p) (by omega) (by omega)
    have l3 := lim_len_shl (a := q.num.natAbs) (n := 2 * p)
    have dv := nat_DivL (N := q.num.natAbs * 2 ^ (2 * p)) (D := q.den) (by omega) (by omega) (by omega)
    have l4 := lim_len_mono (Nat.div_le_self (q.num.natAbs * 2 ^ (2 * p)) q.den)
    have rt := root_Int (a := q.num.natAbs * 2 ^ (2 * p) / q.den) (by omega)
    have l5 := lim_len_mono (rtN_self (q.num.natAbs * 2 ^ (2 * p) / q.den))
    have o1 := nat_Of 1 (by omega)
    have l1' := lim_len1
    have s2 := nat_shl (N := 1) (m := p) (by omega) (by omega)
    have l6 := lim_len_shl (a := 1) (n := p)
    rw [Nat.one_mul] at s2 l6
    have l7 := lim_len_add (a := rtN (q.num.natAbs * 2 ^ (2 * p) / q.den)) (b := 1) (L := L + 34) (by omega) (by omega)
    have ad := nat_AddL (N := rtN (q.num.natAbs * 2 ^ (2 * p) / q.den)) (D := 1) (by omega) (by omega)
    have f1 := rat_OfL (s := false) (n := rtN (q.num.natAbs * 2 ^ (2 * p) / q.den)) (d := 2 ^ p) (by omega) (by omega)
    have f2 := rat_OfL (s := false) (n := rtN (q.num.natAbs * 2 ^ (2 * p) / q.den) + 1) (d := 2 ^ p) (by omega) (by omega)
    have P : 0 < 2 ^ p := Nat.pow_pos (by omega)
    have g1 := rtN_le (q.num.natAbs * 2 ^ (2 * p) / q.den)
    have g2 := lt_rtN (q.num.natAbs * 2 ^ (2 * p) / q.den)
    have m1 := mk_mulP (rtN (q.num.natAbs * 2 ^ (2 * p) / q.den) : Int) P
    have m2 := mk_mulP ((rtN (q.num.natAbs * 2 ^ (2 * p) / q.den) + 1 : Nat) : Int) P
    refine ⟨_, _, ?_, ?_, ?_, ?_, ?_, ?_, szR_nat (n := rtN (q.num.natAbs * 2 ^ (2 * p) / q.den)) (d := 2 ^ p) (by omega) (by omega) (by omega), szR_nat (n := rtN (q.num.natAbs * 2 ^ (2 * p) / q.den) + 1) (d := 2 ^ p) (by omega) (by omega) (by omega)⟩
    · rw [show sgn false (rtN (q.num.natAbs * 2 ^ (2 * p) / q.den)) = (rtN (q.num.natAbs * 2 ^ (2 * p) / q.den) : Int) from rfl] at f1
      rw [show sgn false (rtN (q.num.natAbs * 2 ^ (2 * p) / q.den) + 1) = ((rtN (q.num.natAbs * 2 ^ (2 * p) / q.den) + 1 : Nat) : Int) from rfl] at f2
      clear g1 g2 m1 m2
      rw [show ((2 * p : Nat) : Int) = 2 * (p : Int) by omega] at s1
      obtain ⟨s, n, d, rfl, -⟩ := hv
      generalize mkRat (rtN (q.num.natAbs * 2 ^ (2 * p) / q.den) : Int) (2 ^ p) = r1 at *
      generalize mkRat ((rtN (q.num.natAbs * 2 ^ (2 * p) / q.den) + 1 : Nat) : Int) (2 ^ p) = r2 at *
      generalize rtN (q.num.natAbs * 2 ^ (2 * p) / q.den) + 1 = R1 at *
      generalize rtN (q.num.natAbs * 2 ^ (2 * p) / q.den) = R at *
      generalize q.num.natAbs * 2 ^ (2 * p) / q.den = u at *
      generalize q.num.natAbs * 2 ^ (2 * p) % q.den = u' at *
      generalize q.num.natAbs * 2 ^ (2 * p) = t at *
      generalize 2 ^ p = P' at *
      refine Go.Ev.Fn.intro (fn := Tryz.f181) (body := (Tryz.f181).body.get!) (by kernel_rfl) (by kernel_rfl) (by kernel_rfl) (fun _ => rfl) (Nat.le_of_ble_eq_true (by kernel_rfl)) ?_; unfold Tryz.f181; simp only [Option.get!_some]
      repeat (first | (simp only [go_sem, Nat.reduceEqDiff, Nat.reduceAdd, Nat.reduceSub, Nat.reduceMul, Nat.reduceLeDiff, Nat.reduceLT, reduceIte, reduceCtorEq, Nat.succ_ne_zero, elemsC, Int.reduceToNat, Nat.reducePow, hs, e1, e2]) | (simp (disch := (first | omega | (simp only [AL, List.length_map]; omega))) only [AR, AL, ifT, ifF, take_all, List.length_cons, List.length_nil, Int.reduceToNat, Int.reducePow, Nat.reducePow, hs, e1, e2]) | (refine wk_intro (by kernel_rfl) ?_) | (refine vp_draw (id := 8) (l := [32, 35, 37]) (by kernel_rfl) ?_) | (refine vf_of (by first | exact n1 | exact sq | exact s1 | exact dv | exact rt | exact o1 | exact s2 | exact f1 | exact ad | exact f2) ?_))
    all_goals
      have m1' : mkRat (rtN (q.num.natAbs * 2 ^ (2 * p) / q.den) : Int) (2 ^ p) * p2 p = ((rtN (q.num.natAbs * 2 ^ (2 * p) / q.den) : Nat) : Rat) := m1
      have m2' : mkRat ((rtN (q.num.natAbs * 2 ^ (2 * p) / q.den) + 1 : Nat) : Int) (2 ^ p) * p2 p = ((rtN (q.num.natAbs * 2 ^ (2 * p) / q.den) + 1 : Nat) : Rat) := m2
      have PR := p2_pos p
      have eS : ((rtN (q.num.natAbs * 2 ^ (2 * p) / q.den) + 1 : Nat) : Rat) = ((rtN (q.num.natAbs * 2 ^ (2 * p) / q.den) : Nat) : Rat) + 1 := by exact_mod_cast rfl
      have R0 := nat_nonneg (rtN (q.num.natAbs * 2 ^ (2 * p) / q.den))
    · exact le_by PR (by rw [Rat.zero_mul]; exact Rat.le_trans R0 (by rw [← m1']; exact Rat.le_refl))
    · refine le_by PR ?_
      show mkRat (rtN (q.num.natAbs * 2 ^ (2 * p) / q.den) : Int) (2 ^ p) * p2 p ≤ mkRat ((rtN (q.num.natAbs * 2 ^ (2 * p) / q.den) + 1 : Nat) : Int) (2 ^ p) * p2 p
      rw [m1', m2', eS]
      grind
    · show mkRat (rtN (q.num.natAbs * 2 ^ (2 * p) / q.den) : Int) (2 ^ p) * mkRat (rtN (q.num.natAbs * 2 ^ (2 * p) / q.den) : Int) (2 ^ p) ≤ q
      have a1 := nat_le_rat (Nat.mul_le_mul_right q.den g1)
      have a2 := nat_le_rat (Nat.div_mul_le_self (q.num.natAbs * 2 ^ (2 * p)) q.den)
      have a3 := Rat.le_trans a1 a2
      rw [show 2 ^ (2 * p) = 2 ^ p * 2 ^ p by rw [← Nat.pow_add]; congr 1; omega] at *
      rw [nn_mul, nn_mul, nn_mul, nn_mul, qa] at a3
      generalize mkRat (rtN (q.num.natAbs * (2 ^ p * 2 ^ p) / q.den) : Int) (2 ^ p) = r at *
      generalize ((rtN (q.num.natAbs * (2 ^ p * 2 ^ p) / q.den) : Nat) : Rat) = R at *
      have PP : (0 : Rat) < p2 p * p2 p * (q.den : Rat) := Rat.mul_pos (Rat.mul_pos PR PR) DR
      refine le_by PP ?_
      have e1 : r * r * (p2 p * p2 p * (q.den : Rat)) = (r * p2 p) * (r * p2 p) * (q.den : Rat) := by grind
      have e2 : q * (p2 p * p2 p * (q.den : Rat)) = q * (q.den : Rat) * (p2 p * p2 p) := by grind
      rw [e1, e2, m1', qn]
      exact a3
    · show q ≤ mkRat ((rtN (q.num.natAbs * 2 ^ (2 * p) / q.den) + 1 : Nat) : Int) (2 ^ p) * mkRat ((rtN (q.num.natAbs * 2 ^ (2 * p) / q.den) + 1 : Nat) : Int) (2 ^ p)
      have a1 := nat_le_rat (Nat.mul_le_mul_right q.den (show q.num.natAbs * 2 ^ (2 * p) / q.den + 1 ≤ _ from g2))
      have a2 := le_floor (a := q.num.natAbs * 2 ^ (2 * p)) (d := q.den) D
      rw [← nn_mul] at a2
      have a3 := Rat.le_trans a2 a1
      rw [show 2 ^ (2 * p) = 2 ^ p * 2 ^ p by rw [← Nat.pow_add]; congr 1; omega] at *
      rw [nn_mul, nn_mul, nn_mul, nn_mul, qa] at a3
      generalize mkRat ((rtN (q.num.natAbs * (2 ^ p * 2 ^ p) / q.den) + 1 : Nat) : Int) (2 ^ p) = r at *
      generalize ((rtN (q.num.natAbs * (2 ^ p * 2 ^ p) / q.den) + 1 : Nat) : Rat) = R at *
      have PP : (0 : Rat) < p2 p * p2 p * (q.den : Rat) := Rat.mul_pos (Rat.mul_pos PR PR) DR
      refine le_by PP ?_
      have e1 : r * r * (p2 p * p2 p * (q.den : Rat)) = (r * p2 p) * (r * p2 p) * (q.den : Rat) := by grind
      have e2 : q * (p2 p * p2 p * (q.den : Rat)) = q * (q.den : Rat) * (p2 p * p2 p) := by grind
      rw [e1, e2, m2', qn]
      exact a3
    · show (mkRat ((rtN (q.num.natAbs * 2 ^ (2 * p) / q.den) + 1 : Nat) : Int) (2 ^ p) - mkRat (rtN (q.num.natAbs * 2 ^ (2 * p) / q.den) : Int) (2 ^ p)) * p2 p ≤ 1
      have e : ∀ a b c : Rat, (a - b) * c = a * c - b * c := by intro a b c; grind
      rw [e, m1', m2', eS]
      grind
theorem root_Of {A B : Rat} {L p : Nat} (hA : 0 ≤ A) (hB : 0 ≤ B) (zA : szR A L) (zB : szR B L) (hL1 : 1 ≤ L) (hL : L ≤ 300) (hp : p ≤ 512) :
    ∃ lo lo' hi' hi : Rat, Go.Ev.Fn CX 147 [ballR A B, .int .i64 (p : Int)] (.tup [ballR lo hi, .bool true]) ∧ 0 ≤ lo ∧ lo ≤ lo' ∧ lo * lo ≤ A ∧ A ≤ lo' * lo' ∧ (lo' - lo) * p2 p ≤ 1 ∧
      0 ≤ hi' ∧ hi' ≤ hi ∧ hi' * hi' ≤ B ∧ B ≤ hi * hi ∧ (hi - hi') * p2 p ≤ 1 ∧ szR lo (L + 40) ∧ szR hi (L + 40) := by
  obtain ⟨a1, a2, f, g1, g2, g3, g4, g5, g6, g7⟩ := root_Sqrt (RatA_rv zA) hA hL1 hL hp
  obtain ⟨b1, b2, f', k1, k2, k3, k4, k5, k6, k7⟩ := root_Sqrt (RatA_rv zB) hB hL1 hL hp
  refine ⟨a1, a2, b1, b2, ?_, g1, g2, g3, g4, g5, k1, k2, k3, k4, k5, g6, k7⟩
  clear g1 g2 g3 g4 g5 k1 k2 k3 k4 k5
  refine Go.Ev.Fn.intro (fn := Tryz.f147) (body := (Tryz.f147).body.get!) (by kernel_rfl) (by kernel_rfl) (by kernel_rfl) (fun _ => rfl) (Nat.le_of_ble_eq_true (by kernel_rfl)) ?_; unfold Tryz.f147; simp only [Option.get!_some]
  repeat (first | (simp only [go_sem, Nat.reduceEqDiff, Nat.reduceAdd, Nat.reduceSub, Nat.reduceMul, Nat.reduceLeDiff, Nat.reduceLT, reduceIte, reduceCtorEq, Nat.succ_ne_zero, elemsC, Int.reduceToNat, Nat.reducePow, Bool.not_true]) | (simp (disch := (first | omega | (simp only [AL, List.length_map]; omega))) only [AR, AL, ifT, ifF, take_all, List.length_cons, List.length_nil, Int.reduceToNat, Int.reducePow, Nat.reducePow, Bool.not_true]) | (refine wk_intro (by kernel_rfl) ?_) | (refine vf_of (by first | exact f | exact f') ?_))
end Go.Proofs.YtemnjalaincijaaGreat
namespace Go.Ev
end Go.Ev
namespace Go.Proofs.YtemnjalaincijaaGreat
open Go.Ev
end Go.Proofs.YtemnjalaincijaaGreat
namespace Go.Proofs.YtemnjalaincijaaGreat
open Go.Ev
theorem p2_plus (a b : Nat) : p2 (a + b) = p2 a * p2 b := by
  have : ((2 ^ a : Nat) : Rat) * ((2 ^ b : Nat) : Rat) = ((2 ^ a * 2 ^ b : Nat) : Rat) := by exact_mod_cast rfl
  show ((2 ^ (a + b) : Nat) : Rat) = ((2 ^ a : Nat) : Rat) * ((2 ^ b : Nat) : Rat)
  rw [this, Nat.pow_add]
end Go.Proofs.YtemnjalaincijaaGreat
namespace Go.Proofs.YtemnjalaincijaaGreat
open Go.Ev
end Go.Proofs.YtemnjalaincijaaGreat
namespace Go.Proofs.YtemnjalaincijaaGreat
open Go.Ev
section
variable {x : Rat} {a b w F1 F2 : Nat}
end
end Go.Proofs.YtemnjalaincijaaGreat
namespace Go.Proofs.YtemnjalaincijaaGreat
open Go.Ev
theorem beq_true_self (b : Bool) : (b == b) = true := by cases b <;> rfl
theorem ref2_Is {q : Rat} {L : Nat} (hq : szR q L) (hL : L ≤ 1000000) : Go.Ev.Fn CX 136 [rv q] (.bool true) := by
  have n1 := ref2_Norm (RatA_rv hq) (by omega)
  have l1 := ref2_limbs (lim q.num.natAbs) (lim q.num.natAbs) (by have := hq.1; omega) (by have := hq.1; omega)
  have l2 := ref2_limbs (lim q.den) (lim q.den) (by have := hq.2; omega) (by have := hq.2; omega)
  rw [decide_eq_true rfl] at l1 l2
  have hb := beq_true_self (decide (q.num < 0))
  refine Go.Ev.Fn.intro (fn := Tryz.f136) (body := (Tryz.f136).body.get!) (by kernel_rfl) (by kernel_rfl) (by kernel_rfl) (fun _ => rfl) (Nat.le_of_ble_eq_true (by kernel_rfl)) ?_; unfold Tryz.f136; simp only [Option.get!_some]
  repeat (first | (simp only [go_sem, Nat.reduceEqDiff, Nat.reduceAdd, Nat.reduceSub, Nat.reduceMul, Nat.reduceLeDiff, Nat.reduceLT, reduceIte, reduceCtorEq, Nat.succ_ne_zero, elemsC, Int.reduceToNat, Nat.reducePow, hb]) | (simp (disch := (first | omega | (simp only [AL, List.length_map]; omega))) only [AR, AL, ifT, ifF, take_all, List.length_cons, List.length_nil, Int.reduceToNat, Int.reducePow, Nat.reducePow, hb]) | (refine wk_intro (by kernel_rfl) ?_) | (refine vf_of (by first | exact n1 | exact l1 | exact l2) ?_))
theorem ref4_Of {v : SV} {q : Rat} {L : Nat} (hv : RatA v q L) (hL : L ≤ 1000000) : Go.Ev.Fn CX 22 [v] (ballR q q) := by
  have n1 := ref2_Norm hv (by omega)
  obtain ⟨s, n, d, rfl, -⟩ := hv
  refine Go.Ev.Fn.intro (fn := Tryz.f22) (body := (Tryz.f22).body.get!) (by kernel_rfl) (by kernel_rfl) (by kernel_rfl) (fun _ => rfl) (Nat.le_of_ble_eq_true (by kernel_rfl)) ?_; unfold Tryz.f22; simp only [Option.get!_some]
  repeat (first | (simp only [go_sem, Nat.reduceEqDiff, Nat.reduceAdd, Nat.reduceSub, Nat.reduceMul, Nat.reduceLeDiff, Nat.reduceLT, reduceIte, reduceCtorEq, Nat.succ_ne_zero, elemsC, Int.reduceToNat, Nat.reducePow]) | (simp (disch := (first | omega | (simp only [AL, List.length_map]; omega))) only [AR, AL, ifT, ifF, take_all, List.length_cons, List.length_nil, Int.reduceToNat, Int.reducePow, Nat.reducePow]) | (refine wk_intro (by kernel_rfl) ?_) | (refine vp_draw (id := 1) (l := []) (by kernel_rfl) ?_) | (refine vf_of (by first | exact n1) ?_))
section
variable {a b c d : Rat} {L M : Nat}
theorem ref4_Is (ha : szR a L) (hb : szR b L) (hL1 : 1 ≤ L) (hL : L ≤ 100000) (h : a ≤ b) : Go.Ev.Fn CX 74 [ballR a b] (.bool true) := by
  have i1 := ref2_Is ha (by omega)
  have i2 := ref2_Is hb (by omega)
  have c1 := ref2_Cmp (RatA_rv ha) (RatA_rv hb) hL1 hL1 (by omega)
  have e1 : decide (cmpR a b ≤ 0) = true := by rw [cmpR_le]; exact decide_eq_true h
  generalize cmpR a b = z at *
  refine Go.Ev.Fn.intro (fn := Tryz.f74) (body := (Tryz.f74).body.get!) (by kernel_rfl) (by kernel_rfl) (by kernel_rfl) (fun _ => rfl) (Nat.le_of_ble_eq_true (by kernel_rfl)) ?_; unfold Tryz.f74; simp only [Option.get!_some]
  repeat (first | (simp only [go_sem, Nat.reduceEqDiff, Nat.reduceAdd, Nat.reduceSub, Nat.reduceMul, Nat.reduceLeDiff, Nat.reduceLT, reduceIte, reduceCtorEq, Nat.succ_ne_zero, elemsC, Int.reduceToNat, Nat.reducePow, e1]) | (simp (disch := (first | omega | (simp only [AL, List.length_map]; omega))) only [AR, AL, ifT, ifF, take_all, List.length_cons, List.length_nil, Int.reduceToNat, Int.reducePow, Nat.reducePow, e1]) | (refine wk_intro (by kernel_rfl) ?_) | (refine vf_of (by first | exact i1 | exact i2 | exact c1) ?_))
theorem ref4_Width (ha : szR a L) (hb : szR b L) (hL1 : 1 ≤ L) (hL : L ≤ 100000) : Go.Ev.Fn CX 75 [ballR a b] (rv (b - a)) := by
  have s := ref2_Sub (RatA_rv hb) (RatA_rv ha) hL1 hL1 (by omega)
  refine Go.Ev.Fn.intro (fn := Tryz.f75) (body := (Tryz.f75).body.get!) (by kernel_rfl) (by kernel_rfl) (by kernel_rfl) (fun _ => rfl) (Nat.le_of_ble_eq_true (by kernel_rfl)) ?_; unfold Tryz.f75; simp only [Option.get!_some]
  repeat (first | (simp only [go_sem, Nat.reduceEqDiff, Nat.reduceAdd, Nat.reduceSub, Nat.reduceMul, Nat.reduceLeDiff, Nat.reduceLT, reduceIte, reduceCtorEq, Nat.succ_ne_zero, elemsC, Int.reduceToNat, Nat.reducePow]) | (simp (disch := (first | omega | (simp only [AL, List.length_map]; omega))) only [AR, AL, ifT, ifF, take_all, List.length_cons, List.length_nil, Int.reduceToNat, Int.reducePow, Nat.reducePow]) | (refine wk_intro (by kernel_rfl) ?_) | (refine vf_of (by first | exact s) ?_))
theorem ref4_Bit {p : Nat} (hp : p ≤ 512) : Go.Ev.Fn CX 76 [.int .i64 (p : Int)] (rv (mkRat 1 (2 ^ p))) := by
  have s := ref1_shl (N := 1) (m := p) (by rw [lim_one]; simp) (by omega)
  rw [Nat.one_mul, lim_one] at s
  have l := lim_len_shl (a := 1) (n := p)
  have l1 := lim_len1
  rw [Nat.one_mul] at l
  have o := ref2_OfL (s := false) (n := 1) (d := 2 ^ p) (by omega) (by omega)
  rw [lim_one, show sgn false 1 = 1 from rfl] at o
  generalize mkRat 1 (2 ^ p) = r at *
  generalize 2 ^ p = P at *
  refine Go.Ev.Fn.intro (fn := Tryz.f76) (body := (Tryz.f76).body.get!) (by kernel_rfl) (by kernel_rfl) (by kernel_rfl) (fun _ => rfl) (Nat.le_of_ble_eq_true (by kernel_rfl)) ?_; unfold Tryz.f76; simp only [Option.get!_some]
  repeat (first | (simp only [go_sem, Nat.reduceEqDiff, Nat.reduceAdd, Nat.reduceSub, Nat.reduceMul, Nat.reduceLeDiff, Nat.reduceLT, reduceIte, reduceCtorEq, Nat.succ_ne_zero, elemsC, Int.reduceToNat, Nat.reducePow]) | (simp (disch := (first | omega | (simp only [AL, List.length_map]; omega))) only [AR, AL, ifT, ifF, take_all, List.length_cons, List.length_nil, Int.reduceToNat, Int.reducePow, Nat.reducePow]) | (refine wk_intro (by kernel_rfl) ?_) | (refine vf_of (by first | exact s | exact o) ?_))
theorem ref4_Hold {p : Int} {P : Nat} (h : (p ≤ 0 ∧ P = 0) ∨ p = (P : Int)) (hP : P ≤ 512) : Go.Ev.Fn CX 77 [.int .i64 p] (.int .i64 (P : Int)) := by
  have e1 : (if (0 : Int) > p then (0 : Int) else p) = (P : Int) := by split <;> omega
  have e2 : (if (512 : Int) < (P : Int) then (512 : Int) else (P : Int)) = (P : Int) := if_neg (by omega)
  refine Go.Ev.Fn.intro (fn := Tryz.f77) (body := (Tryz.f77).body.get!) (by kernel_rfl) (by kernel_rfl) (by kernel_rfl) (fun _ => rfl) (Nat.le_of_ble_eq_true (by kernel_rfl)) ?_; unfold Tryz.f77; simp only [Option.get!_some]
  repeat (first | (simp only [go_sem, Nat.reduceEqDiff, Nat.reduceAdd, Nat.reduceSub, Nat.reduceMul, Nat.reduceLeDiff, Nat.reduceLT, reduceIte, reduceCtorEq, Nat.succ_ne_zero, elemsC, Int.reduceToNat, Nat.reducePow, e1, e2]) | (simp (disch := (first | omega | (simp only [AL, List.length_map]; omega))) only [AR, AL, ifT, ifF, take_all, List.length_cons, List.length_nil, Int.reduceToNat, Int.reducePow, Nat.reducePow, e1, e2]) | (refine wk_intro (by kernel_rfl) ?_))
theorem ref4_Side0 (ha : szR a L) (hb : szR b L) (hc : szR c M) (hd : szR d M) (hL1 : 1 ≤ L) (hM1 : 1 ≤ M) (hL : L + M ≤ 100000) (h1 : c ≤ b) (h2 : a ≤ d) : Go.Ev.Fn CX 19 [ballR a b, ballR c d] (.int .i64 0) := by
  have c1 := ref2_Cmp (RatA_rv hb) (RatA_rv hc) hL1 hM1 (by omega)
  have c2 := ref2_Cmp (RatA_rv ha) (RatA_rv hd) hL1 hM1 (by omega)
  have e1 : decide (cmpR b c < 0) = false := by rw [cmpR_lt]; exact decide_eq_false (by grind)
  have e2 : decide (cmpR a d > 0) = false := by rw [cmpR_gt]; exact decide_eq_false (by grind)
  generalize cmpR b c = z1 at *
  generalize cmpR a d = z2 at *
  refine Go.Ev.Fn.intro (fn := Tryz.f19) (body := (Tryz.f19).body.get!) (by kernel_rfl) (by kernel_rfl) (by kernel_rfl) (fun _ => rfl) (Nat.le_of_ble_eq_true (by kernel_rfl)) ?_; unfold Tryz.f19; simp only [Option.get!_some]
  repeat (first | (simp only [go_sem, Nat.reduceEqDiff, Nat.reduceAdd, Nat.reduceSub, Nat.reduceMul, Nat.reduceLeDiff, Nat.reduceLT, reduceIte, reduceCtorEq, Nat.succ_ne_zero, elemsC, Int.reduceToNat, Nat.reducePow, e1, e2]) | (simp (disch := (first | omega | (simp only [AL, List.length_map]; omega))) only [AR, AL, ifT, ifF, take_all, List.length_cons, List.length_nil, Int.reduceToNat, Int.reducePow, Nat.reducePow, e1, e2]) | (refine wk_intro (by kernel_rfl) ?_) | (refine vf_of (by first | exact c1 | exact c2) ?_))
theorem ref4_Good {p : Int} {P : Nat} (hp : (p ≤ 0 ∧ P = 0) ∨ p = (P : Int)) (hP : P ≤ 512) (ha : szR a L) (hb : szR b L) (hc : szR c M) (hd : szR d M) (hL1 : 1 ≤ L) (hM1 : 1 ≤ M) (hL : L + M ≤ 100000) (h0 : a ≤ b) (h1 : c ≤ b) (h2 : a ≤ d) (hw : (b - a) * p2 P ≤ 1) :
    Go.Ev.Fn CX 25 [ballR a b, ballR c d, .int .i64 p] (.bool true) := by
  have i := ref4_Is ha hb hL1 (by omega) h0
  have w := ref4_Width ha hb hL1 (by omega)
  have hh := ref4_Hold hp hP
  have bt := ref4_Bit hP
  have l := lim_len_shl (a := 1) (n := P)
  have l1 := lim_len1
  rw [Nat.one_mul] at l
  have zb : szR (mkRat 1 (2 ^ P)) 20 := szR_mk (s := false) (n := 1) (d := 2 ^ P) (by omega) (by omega) (by omega)
  have zw := szR_sub hb ha hL1
  have c1 := ref2_Cmp (RatA_rv zw) (RatA_rv zb) (by omega) (by omega) (by omega)
  have e0 : b - a ≤ mkRat 1 (2 ^ P) := by
    refine le_by (p2_pos P) ?_
    have : mkRat 1 (2 ^ P) * p2 P = 1 := by
      rw [Rat.mkRat_eq_div]
      exact Rat.div_mul_cancel (by have : (0 : Rat) < p2 P := p2_pos P; grind)
    rw [this]; exact hw
  have e1 : decide (cmpR (b - a) (mkRat 1 (2 ^ P)) ≤ 0) = true := by rw [cmpR_le]; exact decide_eq_true e0
  have sd := ref4_Side0 ha hb hc hd hL1 hM1 (by omega) h1 h2
  generalize cmpR (b - a) (mkRat 1 (2 ^ P)) = z at *
  generalize mkRat 1 (2 ^ P) = r at *
  generalize b - a = x at *
  refine Go.Ev.Fn.intro (fn := Tryz.f25) (body := (Tryz.f25).body.get!) (by kernel_rfl) (by kernel_rfl) (by kernel_rfl) (fun _ => rfl) (Nat.le_of_ble_eq_true (by kernel_rfl)) ?_; unfold Tryz.f25; simp only [Option.get!_some]
  repeat (first | (simp only [go_sem, Nat.reduceEqDiff, Nat.reduceAdd, Nat.reduceSub, Nat.reduceMul, Nat.reduceLeDiff, Nat.reduceLT, reduceIte, reduceCtorEq, Nat.succ_ne_zero, elemsC, Int.reduceToNat, Nat.reducePow, e1]) | (simp (disch := (first | omega | (simp only [AL, List.length_map]; omega))) only [AR, AL, ifT, ifF, take_all, List.length_cons, List.length_nil, Int.reduceToNat, Int.reducePow, Nat.reducePow, e1]) | (refine wk_intro (by kernel_rfl) ?_) | (refine vf_of (by first | exact i | exact w | exact hh | exact bt | exact c1 | exact sd) ?_))
end
end Go.Proofs.YtemnjalaincijaaGreat
namespace Go.Proofs.YtemnjalaincijaaGreat
open Go.Ev
end Go.Proofs.YtemnjalaincijaaGreat
namespace Go.Proofs.YtemnjalaincijaaGreat
open Go.Ev
def mnZ (m x : Int) : Int := if x < m then x else m
def mxZ (m x : Int) : Int := if m < x then x else m
def loP (p1 p2 p3 p4 : Int) : Nat → Int
  | 0 => p1
  | 1 => p1
  | 2 => mnZ p1 p2
  | 3 => mnZ (mnZ p1 p2) p3
  | _ => mnZ (mnZ (mnZ p1 p2) p3) p4
def hiP (p1 p2 p3 p4 : Int) : Nat → Int
  | 0 => p1
  | 1 => p1
  | 2 => mxZ p1 p2
  | 3 => mxZ (mxZ p1 p2) p3
  | _ => mxZ (mxZ (mxZ p1 p2) p3) p4
def loQ (a b c d : Int) : Int := loP (a * c) (a * d) (b * c) (b * d) 4
def hiQ (a b c d : Int) : Int := hiP (a * c) (a * d) (b * c) (b * d) 4
theorem cmpZ_lt {a b : Int} : decide (cmpZ a b < 0) = decide (a < b) := decide_eq_decide.2 (by unfold cmpZ; split <;> (try split) <;> omega)
theorem cmpZ_gt {a b : Int} : decide (cmpZ a b > 0) = decide (b < a) := decide_eq_decide.2 (by unfold cmpZ; split <;> (try split) <;> omega)
theorem cmpZ_le {a b : Int} : decide (cmpZ a b ≤ 0) = decide (a ≤ b) := decide_eq_decide.2 (by unfold cmpZ; split <;> (try split) <;> omega)
theorem mnZ_is (m x : Int) : mnZ m x = m ∨ mnZ m x = x := by unfold mnZ; split <;> simp
theorem loP_is (p1 p2 p3 p4 : Int) (i : Nat) : loP p1 p2 p3 p4 i = p1 ∨ loP p1 p2 p3 p4 i = p2 ∨ loP p1 p2 p3 p4 i = p3 ∨ loP p1 p2 p3 p4 i = p4 := by
  have h2 := mnZ_is p1 p2
  have h3 := mnZ_is (mnZ p1 p2) p3
  have h4 := mnZ_is (mnZ (mnZ p1 p2) p3) p4
  match i with
  | 0 => exact .inl rfl
  | 1 => exact .inl rfl
  | 2 => show mnZ p1 p2 = _ ∨ mnZ p1 p2 = _ ∨ mnZ p1 p2 = _ ∨ mnZ p1 p2 = _; omega
  | 3 => simp only [loP]; omega
  | _ + 4 => simp only [loP]; omega
theorem mxZ_is (m x : Int) : mxZ m x = m ∨ mxZ m x = x := by unfold mxZ; split <;> simp
theorem hiP_is (p1 p2 p3 p4 : Int) (i : Nat) : hiP p1 p2 p3 p4 i = p1 ∨ hiP p1 p2 p3 p4 i = p2 ∨ hiP p1 p2 p3 p4 i = p3 ∨ hiP p1 p2 p3 p4 i = p4 := by
  have h2 := mxZ_is p1 p2
  have h3 := mxZ_is (mxZ p1 p2) p3
  have h4 := mxZ_is (mxZ (mxZ p1 p2) p3) p4
  match i with
  | 0 => exact .inl rfl
  | 1 => exact .inl rfl
  | 2 => show mxZ p1 p2 = _ ∨ mxZ p1 p2 = _ ∨ mxZ p1 p2 = _ ∨ mxZ p1 p2 = _; omega
  | 3 => simp only [hiP]; omega
  | _ + 4 => simp only [hiP]; omega
set_option maxHeartbeats 1000000 in
theorem ref4_Prod {a b c d : Int} {w : Nat} (ha : (lim a.natAbs).length ≤ 10000) (hb : (lim b.natAbs).length ≤ 10000) (hc : (lim c.natAbs).length ≤ 10000) (hd : (lim d.natAbs).length ≤ 10000) (hw : w ≤ 4096) (h0 : 0 < w) :
    Go.Ev.Fn CX 109 [ivV a b, ivV c d, .int .i64 (w : Int)] (ivV (loQ a b c d / ((2 ^ w : Nat) : Int)) (cdZ (hiQ a b c d) (2 ^ w))) := by
  have m1 := ref4_Times a c (by omega) (by omega)
  have m2 := ref4_Times a d (by omega) (by omega)
  have m3 := ref4_Times b c (by omega) (by omega)
  have m4 := ref4_Times b d (by omega) (by omega)
  have l1 : (lim (a * c).natAbs).length ≤ 20000 := by rw [Int.natAbs_mul]; have := lim_len_mul (a := a.natAbs) (b := c.natAbs); omega
  have l2 : (lim (a * d).natAbs).length ≤ 20000 := by rw [Int.natAbs_mul]; have := lim_len_mul (a := a.natAbs) (b := d.natAbs); omega
  have l3 : (lim (b * c).natAbs).length ≤ 20000 := by rw [Int.natAbs_mul]; have := lim_len_mul (a := b.natAbs) (b := c.natAbs); omega
  have l4 : (lim (b * d).natAbs).length ≤ 20000 := by rw [Int.natAbs_mul]; have := lim_len_mul (a := b.natAbs) (b := d.natAbs); omega
  unfold loQ hiQ
  generalize a * c = p1 at *
  generalize a * d = p2 at *
  generalize b * c = p3 at *
  generalize b * d = p4 at *
  have lL : ∀ i, (lim (loP p1 p2 p3 p4 i).natAbs).length ≤ 20000 := by
    intro i
    rcases loP_is p1 p2 p3 p4 i with h | h | h | h <;> rw [h] <;> assumption
  have lH : ∀ i, (lim (hiP p1 p2 p3 p4 i).natAbs).length ≤ 20000 := by
    intro i
    rcases hiP_is p1 p2 p3 p4 i with h | h | h | h <;> rw [h] <;> assumption
  have s1 := ref4_Less (loP p1 p2 p3 p4 4) w (by have := lL 4; omega) hw h0
  have s2 := ref4_More (hiP p1 p2 p3 p4 4) w (by have := lH 4; omega) hw h0
  have L1 : loP p1 p2 p3 p4 1 = p1 := rfl
  have H1 : hiP p1 p2 p3 p4 1 = p1 := rfl
  have L2 : loP p1 p2 p3 p4 2 = mnZ (loP p1 p2 p3 p4 1) p2 := rfl
  have H2 : hiP p1 p2 p3 p4 2 = mxZ (hiP p1 p2 p3 p4 1) p2 := rfl
  have L3 : loP p1 p2 p3 p4 3 = mnZ (loP p1 p2 p3 p4 2) p3 := rfl
  have H3 : hiP p1 p2 p3 p4 3 = mxZ (hiP p1 p2 p3 p4 2) p3 := rfl
  have L4 : loP p1 p2 p3 p4 4 = mnZ (loP p1 p2 p3 p4 3) p4 := rfl
  have H4 : hiP p1 p2 p3 p4 4 = mxZ (hiP p1 p2 p3 p4 3) p4 := rfl
  generalize loP p1 p2 p3 p4 = lo at *
  generalize hiP p1 p2 p3 p4 = hi at *
  generalize hX : lo 4 / ((2 ^ w : Nat) : Int) = X at *
  generalize hY : cdZ (hi 4) (2 ^ w) = Y at *
  clear hX hY ha hb hc hd
  refine Go.Ev.Fn.intro (fn := Tryz.f109) (body := (Tryz.f109).body.get!) (by kernel_rfl) (by kernel_rfl) (by kernel_rfl) (fun _ => rfl) (Nat.le_of_ble_eq_true (by kernel_rfl)) ?_; unfold Tryz.f109; simp only [Option.get!_some]
  repeat (first | (simp only [go_sem, Nat.reduceEqDiff, Nat.reduceAdd, Nat.reduceSub, Nat.reduceMul, Nat.reduceLeDiff, Nat.reduceLT, reduceIte, reduceCtorEq, Nat.succ_ne_zero, elemsC, Int.reduceToNat, Nat.reducePow]) | (simp (disch := (first | omega | (simp only [AL, List.length_map]; omega))) only [AR, AL, ifT, ifF, take_all, List.length_cons, List.length_nil, Int.reduceToNat, Int.reducePow, Nat.reducePow]) | (refine wk_intro (by kernel_rfl) ?_) | (refine vp_draw (id := 1) (l := []) (by kernel_rfl) ?_) | (refine vp_draw (id := 2) (l := []) (by kernel_rfl) ?_) | (refine vp_draw (id := 6) (l := []) (by kernel_rfl) ?_) | (refine vp_draw (id := 8) (l := []) (by kernel_rfl) ?_) | (refine vp_draw (id := 10) (l := []) (by kernel_rfl) ?_) | (refine vf_of (by first | exact m1 | exact m2 | exact m3 | exact m4) ?_))
  refine vp_loop_inv (fun s => s.tmp 2 = .sv (.int .i64 (w : Int)) ∧ s.tmp 6 = .ptr 6 0 0 ∧ s.obj 6 0 = some [.bool false, .sl 0 [], .bool false, .sl 0 []] ∧ s.tmp 7 = .sv (.sl 4 [.bool (decide (p1 < 0)), natV (lim p1.natAbs), .bool (decide (p2 < 0)), natV (lim p2.natAbs), .bool (decide (p3 < 0)), natV (lim p3.natAbs), .bool (decide (p4 < 0)), natV (lim p4.natAbs)]) ∧ s.tmp 8 = .ptr 8 0 0 ∧ s.tmp 9 = .ptr 9 0 0 ∧
      ∃ i : Nat, s.tmp 10 = .sv (.int .i64 (i : Int)) ∧ 1 ≤ i ∧ i ≤ 4 ∧ s.obj 8 0 = some [.bool (decide (lo i < 0)), natV (lim (lo i).natAbs)] ∧ s.obj 9 0 = some [.bool (decide (hi i < 0)), natV (lim (hi i).natAbs)])
    (fun s => match s.tmp 10 with | .sv (.int _ i) => 4 - i.toNat | _ => 0) ⟨rfl, rfl, rfl, rfl, rfl, rfl, 1, rfl, by omega, by omega, by first | (rw [L1]; done) | (rw [L1]; rfl) | (rw [L1]; exact o8) | (rw [L1]; exact o9), by first | (rw [H1]; done) | (rw [H1]; rfl) | (rw [H1]; exact o8) | (rw [H1]; exact o9)⟩ ?_
  rintro s ⟨i2, i6, o6, i7, i8, i9, i, i10, g1, g2, o8, o9⟩
  obtain rfl | rfl | rfl | rfl : i = 4 ∨ i = 1 ∨ i = 2 ∨ i = 3 := by omega
  · repeat (first | (simp only [go_sem, Nat.reduceEqDiff, Nat.reduceAdd, Nat.reduceSub, Nat.reduceMul, Nat.reduceLeDiff, Nat.reduceLT, reduceIte, reduceCtorEq, Nat.succ_ne_zero, elemsC, Int.reduceToNat, Nat.reducePow, i2, i6, o6, i7, i8, i9, i10, o8, o9]) | (simp (disch := (first | omega | (simp only [AL, List.length_map]; omega))) only [AR, AL, ifT, ifF, take_all, List.length_cons, List.length_nil, Int.reduceToNat, Int.reducePow, Nat.reducePow, i2, i6, o6, i7, i8, i9, i10, o8, o9]) | (refine wk_intro (by kernel_rfl) ?_) | (refine vp_draw (id := 1) (l := []) (by kernel_rfl) ?_) | (refine vp_draw (id := 2) (l := []) (by kernel_rfl) ?_) | (refine vp_draw (id := 6) (l := []) (by kernel_rfl) ?_) | (refine vp_draw (id := 8) (l := []) (by kernel_rfl) ?_) | (refine vp_draw (id := 10) (l := []) (by kernel_rfl) ?_))
    repeat (first | (simp only [go_sem, Nat.reduceEqDiff, Nat.reduceAdd, Nat.reduceSub, Nat.reduceMul, Nat.reduceLeDiff, Nat.reduceLT, reduceIte, reduceCtorEq, Nat.succ_ne_zero, elemsC, Int.reduceToNat, Nat.reducePow, i2, i6, o6, i7, i8, i9, i10, o8, o9]) | (simp (disch := (first | omega | (simp only [AL, List.length_map]; omega))) only [AR, AL, ifT, ifF, take_all, List.length_cons, List.length_nil, Int.reduceToNat, Int.reducePow, Nat.reducePow, i2, i6, o6, i7, i8, i9, i10, o8, o9]) | (refine wk_intro (by kernel_rfl) ?_) | (refine vp_draw (id := 1) (l := []) (by kernel_rfl) ?_) | (refine vp_draw (id := 2) (l := []) (by kernel_rfl) ?_) | (refine vp_draw (id := 6) (l := []) (by kernel_rfl) ?_) | (refine vp_draw (id := 8) (l := []) (by kernel_rfl) ?_) | (refine vp_draw (id := 10) (l := []) (by kernel_rfl) ?_) | (refine vf_of (by first | exact s1 | exact s2) ?_))
  · have c1 := ref4_Cmp p2 (lo 1) (by omega) (by have := lL 1; omega)
    have c2 := ref4_Cmp p2 (hi 1) (by omega) (by have := lH 1; omega)
    have c3 := ref4_Cmp p2 (hi 1) (by omega) (by have := lH 1; omega)
    have e1 := cmpZ_lt (a := p2) (b := lo 1)
    have e2 := cmpZ_gt (a := p2) (b := hi 1)
    generalize cmpZ p2 (lo 1) = z1 at *
    generalize cmpZ p2 (hi 1) = z2 at *
    by_cases k1 : p2 < lo 1
    · rw [decide_eq_true k1] at e1
      rw [mnZ, if_pos k1] at L2
      by_cases k2 : hi 1 < p2
      · rw [decide_eq_true k2] at e2
        rw [mxZ, if_pos k2] at H2
        clear k1 k2
        repeat (first | (simp only [go_sem, Nat.reduceEqDiff, Nat.reduceAdd, Nat.reduceSub, Nat.reduceMul, Nat.reduceLeDiff, Nat.reduceLT, reduceIte, reduceCtorEq, Nat.succ_ne_zero, elemsC, Int.reduceToNat, Nat.reducePow, i2, i6, o6, i7, i8, i9, i10, o8, o9, e1, e2]) | (simp (disch := (first | omega | (simp only [AL, List.length_map]; omega))) only [AR, AL, ifT, ifF, take_all, List.length_cons, List.length_nil, Int.reduceToNat, Int.reducePow, Nat.reducePow, i2, i6, o6, i7, i8, i9, i10, o8, o9, e1, e2]) | (refine wk_intro (by kernel_rfl) ?_) | (refine vp_draw (id := 1) (l := []) (by kernel_rfl) ?_) | (refine vp_draw (id := 2) (l := []) (by kernel_rfl) ?_) | (refine vp_draw (id := 6) (l := []) (by kernel_rfl) ?_) | (refine vp_draw (id := 8) (l := []) (by kernel_rfl) ?_) | (refine vp_draw (id := 10) (l := []) (by kernel_rfl) ?_) | (refine vf_of (by first | exact c1 | exact c2) ?_))
        exact ⟨2, rfl, by omega, by omega, by first | (rw [L2]; done) | (rw [L2]; rfl) | (rw [L2]; exact o8) | (rw [L2]; exact o9), by first | (rw [H2]; done) | (rw [H2]; rfl) | (rw [H2]; exact o8) | (rw [H2]; exact o9)⟩
      · rw [decide_eq_false k2] at e2
        rw [mxZ, if_neg k2] at H2
        clear k1 k2
        repeat (first | (simp only [go_sem, Nat.reduceEqDiff, Nat.reduceAdd, Nat.reduceSub, Nat.reduceMul, Nat.reduceLeDiff, Nat.reduceLT, reduceIte, reduceCtorEq, Nat.succ_ne_zero, elemsC, Int.reduceToNat, Nat.reducePow, i2, i6, o6, i7, i8, i9, i10, o8, o9, e1, e2]) | (simp (disch := (first | omega | (simp only [AL, List.length_map]; omega))) only [AR, AL, ifT, ifF, take_all, List.length_cons, List.length_nil, Int.reduceToNat, Int.reducePow, Nat.reducePow, i2, i6, o6, i7, i8, i9, i10, o8, o9, e1, e2]) | (refine wk_intro (by kernel_rfl) ?_) | (refine vp_draw (id := 1) (l := []) (by kernel_rfl) ?_) | (refine vp_draw (id := 2) (l := []) (by kernel_rfl) ?_) | (refine vp_draw (id := 6) (l := []) (by kernel_rfl) ?_) | (refine vp_draw (id := 8) (l := []) (by kernel_rfl) ?_) | (refine vp_draw (id := 10) (l := []) (by kernel_rfl) ?_) | (refine vf_of (by first | exact c1 | exact c2) ?_))
        exact ⟨2, rfl, by omega, by omega, by first | (rw [L2]; done) | (rw [L2]; rfl) | (rw [L2]; exact o8) | (rw [L2]; exact o9), by first | (rw [H2]; done) | (rw [H2]; rfl) | (rw [H2]; exact o8) | (rw [H2]; exact o9)⟩
    · rw [decide_eq_false k1] at e1
      rw [mnZ, if_neg k1] at L2
      by_cases k2 : hi 1 < p2
      · rw [decide_eq_true k2] at e2
        rw [mxZ, if_pos k2] at H2
        clear k1 k2
        repeat (first | (simp only [go_sem, Nat.reduceEqDiff, Nat.reduceAdd, Nat.reduceSub, Nat.reduceMul, Nat.reduceLeDiff, Nat.reduceLT, reduceIte, reduceCtorEq, Nat.succ_ne_zero, elemsC, Int.reduceToNat, Nat.reducePow, i2, i6, o6, i7, i8, i9, i10, o8, o9, e1, e2]) | (simp (disch := (first | omega | (simp only [AL, List.length_map]; omega))) only [AR, AL, ifT, ifF, take_all, List.length_cons, List.length_nil, Int.reduceToNat, Int.reducePow, Nat.reducePow, i2, i6, o6, i7, i8, i9, i10, o8, o9, e1, e2]) | (refine wk_intro (by kernel_rfl) ?_) | (refine vp_draw (id := 1) (l := []) (by kernel_rfl) ?_) | (refine vp_draw (id := 2) (l := []) (by kernel_rfl) ?_) | (refine vp_draw (id := 6) (l := []) (by kernel_rfl) ?_) | (refine vp_draw (id := 8) (l := []) (by kernel_rfl) ?_) | (refine vp_draw (id := 10) (l := []) (by kernel_rfl) ?_) | (refine vf_of (by first | exact c1 | exact c2) ?_))
        exact ⟨2, rfl, by omega, by omega, by first | (rw [L2]; done) | (rw [L2]; rfl) | (rw [L2]; exact o8) | (rw [L2]; exact o9), by first | (rw [H2]; done) | (rw [H2]; rfl) | (rw [H2]; exact o8) | (rw [H2]; exact o9)⟩
      · rw [decide_eq_false k2] at e2
        rw [mxZ, if_neg k2] at H2
        clear k1 k2
        repeat (first | (simp only [go_sem, Nat.reduceEqDiff, Nat.reduceAdd, Nat.reduceSub, Nat.reduceMul, Nat.reduceLeDiff, Nat.reduceLT, reduceIte, reduceCtorEq, Nat.succ_ne_zero, elemsC, Int.reduceToNat, Nat.reducePow, i2, i6, o6, i7, i8, i9, i10, o8, o9, e1, e2]) | (simp (disch := (first | omega | (simp only [AL, List.length_map]; omega))) only [AR, AL, ifT, ifF, take_all, List.length_cons, List.length_nil, Int.reduceToNat, Int.reducePow, Nat.reducePow, i2, i6, o6, i7, i8, i9, i10, o8, o9, e1, e2]) | (refine wk_intro (by kernel_rfl) ?_) | (refine vp_draw (id := 1) (l := []) (by kernel_rfl) ?_) | (refine vp_draw (id := 2) (l := []) (by kernel_rfl) ?_) | (refine vp_draw (id := 6) (l := []) (by kernel_rfl) ?_) | (refine vp_draw (id := 8) (l := []) (by kernel_rfl) ?_) | (refine vp_draw (id := 10) (l := []) (by kernel_rfl) ?_) | (refine vf_of (by first | exact c1 | exact c2) ?_))
        exact ⟨2, rfl, by omega, by omega, by first | (rw [L2]; done) | (rw [L2]; rfl) | (rw [L2]; exact o8) | (rw [L2]; exact o9), by first | (rw [H2]; done) | (rw [H2]; rfl) | (rw [H2]; exact o8) | (rw [H2]; exact o9)⟩
  · have c1 := ref4_Cmp p3 (lo 2) (by omega) (by have := lL 2; omega)
    have c2 := ref4_Cmp p3 (hi 2) (by omega) (by have := lH 2; omega)
    have c3 := ref4_Cmp p3 (hi 2) (by omega) (by have := lH 2; omega)
    have e1 := cmpZ_lt (a := p3) (b := lo 2)
    have e2 := cmpZ_gt (a := p3) (b := hi 2)
    generalize cmpZ p3 (lo 2) = z1 at *
    generalize cmpZ p3 (hi 2) = z2 at *
    by_cases k1 : p3 < lo 2
    · rw [decide_eq_true k1] at e1
      rw [mnZ, if_pos k1] at L3
      by_cases k2 : hi 2 < p3
      · rw [decide_eq_true k2] at e2
        rw [mxZ, if_pos k2] at H3
        clear k1 k2
        repeat (first | (simp only [go_sem, Nat.reduceEqDiff, Nat.reduceAdd, Nat.reduceSub, Nat.reduceMul, Nat.reduceLeDiff, Nat.reduceLT, reduceIte, reduceCtorEq, Nat.succ_ne_zero, elemsC, Int.reduceToNat, Nat.reducePow, i2, i6, o6, i7, i8, i9, i10, o8, o9, e1, e2]) | (simp (disch := (first | omega | (simp only [AL, List.length_map]; omega))) only [AR, AL, ifT, ifF, take_all, List.length_cons, List.length_nil, Int.reduceToNat, Int.reducePow, Nat.reducePow, i2, i6, o6, i7, i8, i9, i10, o8, o9, e1, e2]) | (refine wk_intro (by kernel_rfl) ?_) | (refine vp_draw (id := 1) (l := []) (by kernel_rfl) ?_) | (refine vp_draw (id := 2) (l := []) (by kernel_rfl) ?_) | (refine vp_draw (id := 6) (l := []) (by kernel_rfl) ?_) | (refine vp_draw (id := 8) (l := []) (by kernel_rfl) ?_) | (refine vp_draw (id := 10) (l := []) (by kernel_rfl) ?_) | (refine vf_of (by first | exact c1 | exact c2) ?_))
        exact ⟨3, rfl, by omega, by omega, by first | (rw [L3]; done) | (rw [L3]; rfl) | (rw [L3]; exact o8) | (rw [L3]; exact o9), by first | (rw [H3]; done) | (rw [H3]; rfl) | (rw [H3]; exact o8) | (rw [H3]; exact o9)⟩
      · rw [decide_eq_false k2] at e2
        rw [mxZ, if_neg k2] at H3
        clear k1 k2
        repeat (first | (simp only [go_sem, Nat.reduceEqDiff, Nat.reduceAdd, Nat.reduceSub, Nat.reduceMul, Nat.reduceLeDiff, Nat.reduceLT, reduceIte, reduceCtorEq, Nat.succ_ne_zero, elemsC, Int.reduceToNat, Nat.reducePow, i2, i6, o6, i7, i8, i9, i10, o8, o9, e1, e2]) | (simp (disch := (first | omega | (simp only [AL, List.length_map]; omega))) only [AR, AL, ifT, ifF, take_all, List.length_cons, List.length_nil, Int.reduceToNat, Int.reducePow, Nat.reducePow, i2, i6, o6, i7, i8, i9, i10, o8, o9, e1, e2]) | (refine wk_intro (by kernel_rfl) ?_) | (refine vp_draw (id := 1) (l := []) (by kernel_rfl) ?_) | (refine vp_draw (id := 2) (l := []) (by kernel_rfl) ?_) | (refine vp_draw (id := 6) (l := []) (by kernel_rfl) ?_) | (refine vp_draw (id := 8) (l := []) (by kernel_rfl) ?_) | (refine vp_draw (id := 10) (l := []) (by kernel_rfl) ?_) | (refine vf_of (by first | exact c1 | exact c2) ?_))
        exact ⟨3, rfl, by omega, by omega, by first | (rw [L3]; done) | (rw [L3]; rfl) | (rw [L3]; exact o8) | (rw [L3]; exact o9), by first | (rw [H3]; done) | (rw [H3]; rfl) | (rw [H3]; exact o8) | (rw [H3]; exact o9)⟩
    · rw [decide_eq_false k1] at e1
      rw [mnZ, if_neg k1] at L3
      by_cases k2 : hi 2 < p3
      · rw [decide_eq_true k2] at e2
        rw [mxZ, if_pos k2] at H3
        clear k1 k2
        repeat (first | (simp only [go_sem, Nat.reduceEqDiff, Nat.reduceAdd, Nat.reduceSub, Nat.reduceMul, Nat.reduceLeDiff, Nat.reduceLT, reduceIte, reduceCtorEq, Nat.succ_ne_zero, elemsC, Int.reduceToNat, Nat.reducePow, i2, i6, o6, i7, i8, i9, i10, o8, o9, e1, e2]) | (simp (disch := (first | omega | (simp only [AL, List.length_map]; omega))) only [AR, AL, ifT, ifF, take_all, List.length_cons, List.length_nil, Int.reduceToNat, Int.reducePow, Nat.reducePow, i2, i6, o6, i7, i8, i9, i10, o8, o9, e1, e2]) | (refine wk_intro (by kernel_rfl) ?_) | (refine vp_draw (id := 1) (l := []) (by kernel_rfl) ?_) | (refine vp_draw (id := 2) (l := []) (by kernel_rfl) ?_) | (refine vp_draw (id := 6) (l := []) (by kernel_rfl) ?_) | (refine vp_draw (id := 8) (l := []) (by kernel_rfl) ?_) | (refine vp_draw (id := 10) (l := []) (by kernel_rfl) ?_) | (refine vf_of (by first | exact c1 | exact c2) ?_))
        exact ⟨3, rfl, by omega, by omega, by first | (rw [L3]; done) | (rw [L3]; rfl) | (rw [L3]; exact o8) | (rw [L3]; exact o9), by first | (rw [H3]; done) | (rw [H3]; rfl) | (rw [H3]; exact o8) | (rw [H3]; exact o9)⟩
      · rw [decide_eq_false k2] at e2
        rw [mxZ, if_neg k2] at H3
        clear k1 k2
        repeat (first | (simp only [go_sem, Nat.reduceEqDiff, Nat.reduceAdd, Nat.reduceSub, Nat.reduceMul, Nat.reduceLeDiff, Nat.reduceLT, reduceIte, reduceCtorEq, Nat.succ_ne_zero, elemsC, Int.reduceToNat, Nat.reducePow, i2, i6, o6, i7, i8, i9, i10, o8, o9, e1, e2]) | (simp (disch := (first | omega | (simp only [AL, List.length_map]; omega))) only [AR, AL, ifT, ifF, take_all, List.length_cons, List.length_nil, Int.reduceToNat, Int.reducePow, Nat.reducePow, i2, i6, o6, i7, i8, i9, i10, o8, o9, e1, e2]) | (refine wk_intro (by kernel_rfl) ?_) | (refine vp_draw (id := 1) (l := []) (by kernel_rfl) ?_) | (refine vp_draw (id := 2) (l := []) (by kernel_rfl) ?_) | (refine vp_draw (id := 6) (l := []) (by kernel_rfl) ?_) | (refine vp_draw (id := 8) (l := []) (by kernel_rfl) ?_) | (refine vp_draw (id := 10) (l := []) (by kernel_rfl) ?_) | (refine vf_of (by first | exact c1 | exact c2) ?_))
        exact ⟨3, rfl, by omega, by omega, by first | (rw [L3]; done) | (rw [L3]; rfl) | (rw [L3]; exact o8) | (rw [L3]; exact o9), by first | (rw [H3]; done) | (rw [H3]; rfl) | (rw [H3]; exact o8) | (rw [H3]; exact o9)⟩
  · have c1 := ref4_Cmp p4 (lo 3) (by omega) (by have := lL 3; omega)
    have c2 := ref4_Cmp p4 (hi 3) (by omega) (by have := lH 3; omega)
    have c3 := ref4_Cmp p4 (hi 3) (by omega) (by have := lH 3; omega)
    have e1 := cmpZ_lt (a := p4) (b := lo 3)
    have e2 := cmpZ_gt (a := p4) (b := hi 3)
    generalize cmpZ p4 (lo 3) = z1 at *
    generalize cmpZ p4 (hi 3) = z2 at *
    by_cases k1 : p4 < lo 3
    · rw [decide_eq_true k1] at e1
      rw [mnZ, if_pos k1] at L4
      by_cases k2 : hi 3 < p4
      · rw [decide_eq_true k2] at e2
        rw [mxZ, if_pos k2] at H4
        clear k1 k2
        repeat (first | (simp only [go_sem, Nat.reduceEqDiff, Nat.reduceAdd, Nat.reduceSub, Nat.reduceMul, Nat.reduceLeDiff, Nat.reduceLT, reduceIte, reduceCtorEq, Nat.succ_ne_zero, elemsC, Int.reduceToNat, Nat.reducePow, i2, i6, o6, i7, i8, i9, i10, o8, o9, e1, e2]) | (simp (disch := (first | omega | (simp only [AL, List.length_map]; omega))) only [AR, AL, ifT, ifF, take_all, List.length_cons, List.length_nil, Int.reduceToNat, Int.reducePow, Nat.reducePow, i2, i6, o6, i7, i8, i9, i10, o8, o9, e1, e2]) | (refine wk_intro (by kernel_rfl) ?_) | (refine vp_draw (id := 1) (l := []) (by kernel_rfl) ?_) | (refine vp_draw (id := 2) (l := []) (by kernel_rfl) ?_) | (refine vp_draw (id := 6) (l := []) (by kernel_rfl) ?_) | (refine vp_draw (id := 8) (l := []) (by kernel_rfl) ?_) | (refine vp_draw (id := 10) (l := []) (by kernel_rfl) ?_) | (refine vf_of (by first | exact c1 | exact c2) ?_))
        exact ⟨4, rfl, by omega, by omega, by first | (rw [L4]; done) | (rw [L4]; rfl) | (rw [L4]; exact o8) | (rw [L4]; exact o9), by first | (rw [H4]; done) | (rw [H4]; rfl) | (rw [H4]; exact o8) | (rw [H4]; exact o9)⟩
      · rw [decide_eq_false k2] at e2
        rw [mxZ, if_neg k2] at H4
        clear k1 k2
        repeat (first | (simp only [go_sem, Nat.reduceEqDiff, Nat.reduceAdd, Nat.reduceSub, Nat.reduceMul, Nat.reduceLeDiff, Nat.reduceLT, reduceIte, reduceCtorEq, Nat.succ_ne_zero, elemsC, Int.reduceToNat, Nat.reducePow, i2, i6, o6, i7, i8, i9, i10, o8, o9, e1, e2]) | (simp (disch := (first | omega | (simp only [AL, List.length_map]; omega))) only [AR, AL, ifT, ifF, take_all, List.length_cons, List.length_nil, Int.reduceToNat, Int.reducePow, Nat.reducePow, i2, i6, o6, i7, i8, i9, i10, o8, o9, e1, e2]) | (refine wk_intro (by kernel_rfl) ?_) | (refine vp_draw (id := 1) (l := []) (by kernel_rfl) ?_) | (refine vp_draw (id := 2) (l := []) (by kernel_rfl) ?_) | (refine vp_draw (id := 6) (l := []) (by kernel_rfl) ?_) | (refine vp_draw (id := 8) (l := []) (by kernel_rfl) ?_) | (refine vp_draw (id := 10) (l := []) (by kernel_rfl) ?_) | (refine vf_of (by first | exact c1 | exact c2) ?_))
        exact ⟨4, rfl, by omega, by omega, by first | (rw [L4]; done) | (rw [L4]; rfl) | (rw [L4]; exact o8) | (rw [L4]; exact o9), by first | (rw [H4]; done) | (rw [H4]; rfl) | (rw [H4]; exact o8) | (rw [H4]; exact o9)⟩
    · rw [decide_eq_false k1] at e1
      rw [mnZ, if_neg k1] at L4
      by_cases k2 : hi 3 < p4
      · rw [decide_eq_true k2] at e2
        rw [mxZ, if_pos k2] at H4
        clear k1 k2
        repeat (first | (simp only [go_sem, Nat.reduceEqDiff, Nat.reduceAdd, Nat.reduceSub, Nat.reduceMul, Nat.reduceLeDiff, Nat.reduceLT, reduceIte, reduceCtorEq, Nat.succ_ne_zero, elemsC, Int.reduceToNat, Nat.reducePow, i2, i6, o6, i7, i8, i9, i10, o8, o9, e1, e2]) | (simp (disch := (first | omega | (simp only [AL, List.length_map]; omega))) only [AR, AL, ifT, ifF, take_all, List.length_cons, List.length_nil, Int.reduceToNat, Int.reducePow, Nat.reducePow, i2, i6, o6, i7, i8, i9, i10, o8, o9, e1, e2]) | (refine wk_intro (by kernel_rfl) ?_) | (refine vp_draw (id := 1) (l := []) (by kernel_rfl) ?_) | (refine vp_draw (id := 2) (l := []) (by kernel_rfl) ?_) | (refine vp_draw (id := 6) (l := []) (by kernel_rfl) ?_) | (refine vp_draw (id := 8) (l := []) (by kernel_rfl) ?_) | (refine vp_draw (id := 10) (l := []) (by kernel_rfl) ?_) | (refine vf_of (by first | exact c1 | exact c2) ?_))
        exact ⟨4, rfl, by omega, by omega, by first | (rw [L4]; done) | (rw [L4]; rfl) | (rw [L4]; exact o8) | (rw [L4]; exact o9), by first | (rw [H4]; done) | (rw [H4]; rfl) | (rw [H4]; exact o8) | (rw [H4]; exact o9)⟩
      · rw [decide_eq_false k2] at e2
        rw [mxZ, if_neg k2] at H4
        clear k1 k2
        repeat (first | (simp only [go_sem, Nat.reduceEqDiff, Nat.reduceAdd, Nat.reduceSub, Nat.reduceMul, Nat.reduceLeDiff, Nat.reduceLT, reduceIte, reduceCtorEq, Nat.succ_ne_zero, elemsC, Int.reduceToNat, Nat.reducePow, i2, i6, o6, i7, i8, i9, i10, o8, o9, e1, e2]) | (simp (disch := (first | omega | (simp only [AL, List.length_map]; omega))) only [AR, AL, ifT, ifF, take_all, List.length_cons, List.length_nil, Int.reduceToNat, Int.reducePow, Nat.reducePow, i2, i6, o6, i7, i8, i9, i10, o8, o9, e1, e2]) | (refine wk_intro (by kernel_rfl) ?_) | (refine vp_draw (id := 1) (l := []) (by kernel_rfl) ?_) | (refine vp_draw (id := 2) (l := []) (by kernel_rfl) ?_) | (refine vp_draw (id := 6) (l := []) (by kernel_rfl) ?_) | (refine vp_draw (id := 8) (l := []) (by kernel_rfl) ?_) | (refine vp_draw (id := 10) (l := []) (by kernel_rfl) ?_) | (refine vf_of (by first | exact c1 | exact c2) ?_))
        exact ⟨4, rfl, by omega, by omega, by first | (rw [L4]; done) | (rw [L4]; rfl) | (rw [L4]; exact o8) | (rw [L4]; exact o9), by first | (rw [H4]; done) | (rw [H4]; rfl) | (rw [H4]; exact o8) | (rw [H4]; exact o9)⟩
end Go.Proofs.YtemnjalaincijaaGreat
