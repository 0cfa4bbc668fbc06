/- Part 11 of the proof: the evaluator, contracts of functions and their plain laws (joined by program). No condition. -/
import Derived.Test.YtecjelnpmcnbaaaGreatPart10
set_option linter.unusedVariables false
set_option linter.unusedSimpArgs false
set_option maxRecDepth 100000
namespace Go.Proofs.YtecjelnpmcnbaaaGreat
open Go.Ev
theorem ref14_exact (k : Int) (hk : k = 0 ∨ k = 1) : Go.Ev.Fn CX 43 [.int .i64 k] (ballR (k : Rat) (k : Rat)) := by
  have i := ref2_Int k (by omega)
  have o := ref4_Of (RatA_rv (int_szR (n := k) (by omega))) (by omega)
  generalize (k : Rat) = x at *
  refine Go.Ev.Fn.intro (fn := Tryz.f43) (body := (Tryz.f43).body.get!) (by kernel_rfl) (by kernel_rfl) (by kernel_rfl) (fun _ => rfl) (Nat.le_of_ble_eq_true (by kernel_rfl)) ?_; unfold Tryz.f43; simp only [Option.get!_some]
  repeat (first | (simp only [go_sem, Nat.reduceEqDiff, Nat.reduceAdd, Nat.reduceSub, Nat.reduceMul, Nat.reduceLeDiff, Nat.reduceLT, reduceIte, reduceCtorEq, Nat.succ_ne_zero, elemsC, Int.reduceToNat, Nat.reducePow]) | (simp (disch := (first | omega | (simp only [AL, List.length_map]; omega))) only [AR, AL, ifT, ifF, take_all, List.length_cons, List.length_nil, Int.reduceToNat, Int.reducePow, Nat.reducePow]) | (refine wk_intro (by kernel_rfl) ?_) | (refine vf_of (by first | exact i | exact o) ?_))
theorem ref14_limit (l h : Rat) : Go.Ev.Fn CX 44 [ballR l h, .bool true] (.tup [ballR l h, .int .i64 0]) := by
  refine Go.Ev.Fn.intro (fn := Tryz.f44) (body := (Tryz.f44).body.get!) (by kernel_rfl) (by kernel_rfl) (by kernel_rfl) (fun _ => rfl) (Nat.le_of_ble_eq_true (by kernel_rfl)) ?_; unfold Tryz.f44; simp only [Option.get!_some]
  repeat (first | (simp only [go_sem, Nat.reduceEqDiff, Nat.reduceAdd, Nat.reduceSub, Nat.reduceMul, Nat.reduceLeDiff, Nat.reduceLT, reduceIte, reduceCtorEq, Nat.succ_ne_zero, elemsC, Int.reduceToNat, Nat.reducePow, Bool.not_true]) | (simp (disch := (first | omega | (simp only [AL, List.length_map]; omega))) only [AR, AL, ifT, ifF, take_all, List.length_cons, List.length_nil, Int.reduceToNat, Int.reducePow, Nat.reducePow, Bool.not_true]) | (refine wk_intro (by kernel_rfl) ?_))
theorem ref14_beta {n : Nat} {x : Rat} (hn : 1 ≤ n ∧ n ≤ 12) (zx : szR x 3) (hx : x = 0 ∨ x = 1 ∨ (0 < x ∧ x < 1)) :
    ∃ l h : Rat, Go.Ev.Fn CX 19 [dB n, rv x, .int .i64 100] (.tup [ballR l h, .int .i64 0]) ∧ szR l 40 ∧ szR h 40 ∧
      ((x = 0 ∧ l = 0 ∧ h = 0) ∨ (x = 1 ∧ l = 1 ∧ h = 1) ∨ (0 < x ∧ x < 1 ∧ LoS n 3 x l ∧ HiS n 3 x h)) := by
  have ck := dB_ref (n := (n : Int)) (by omega)
  have ps := ref14_positive (RatA_rv zx) (by omega) (by omega)
  have i1 := ref2_Int 1 (by omega)
  have c1 := ref2_Cmp (RatA_rv zx) (RatA_rv (int_szR (n := 1) (by omega))) (by omega) (by omega) (by omega)
  have e1 := cmpR_ge (q := x) (r := ((1 : Int) : Rat))
  have k1 : ((1 : Int) : Rat) = 1 := rfl
  have x0 := ref14_exact 0 (.inl rfl)
  have x1 := ref14_exact 1 (.inr rfl)
  rw [show ((0 : Int) : Rat) = 0 from rfl] at x0
  rw [k1] at i1 c1 e1 x1
  rcases hx with rfl | rfl | ⟨h0, h1⟩
  · rw [decide_eq_false (by decide)] at ps
    refine ⟨0, 0, ?_, szR_zero (by omega), szR_zero (by omega), .inl ⟨rfl, rfl, rfl⟩⟩
    refine Go.Ev.Fn.intro (fn := Tryz.f19) (body := (Tryz.f19).body.get!) (by kernel_rfl) (by kernel_rfl) (by kernel_rfl) (fun _ => rfl) (Nat.le_of_ble_eq_true (by kernel_rfl)) ?_; unfold Tryz.f19; simp only [Option.get!_some]
    repeat (first | (simp only [go_sem, Nat.reduceEqDiff, Nat.reduceAdd, Nat.reduceSub, Nat.reduceMul, Nat.reduceLeDiff, Nat.reduceLT, reduceIte, reduceCtorEq, Nat.succ_ne_zero, elemsC, Int.reduceToNat, Nat.reducePow, Bool.not_false]) | (simp (disch := (first | omega | (simp only [AL, List.length_map]; omega))) only [AR, AL, ifT, ifF, take_all, List.length_cons, List.length_nil, Int.reduceToNat, Int.reducePow, Nat.reducePow, Bool.not_false]) | (refine wk_intro (by kernel_rfl) ?_) | (refine vp_draw (id := 6) (l := []) (by kernel_rfl) ?_) | (refine vp_draw (id := 18) (l := []) (by kernel_rfl) ?_) | (refine vp_draw (id := 20) (l := []) (by kernel_rfl) ?_) | (refine vp_draw (id := 22) (l := []) (by kernel_rfl) ?_) | (refine vp_draw (id := 23) (l := []) (by kernel_rfl) ?_) | (refine vp_draw (id := 24) (l := []) (by kernel_rfl) ?_) | (refine vf_of (by first | exact ck | exact ps | exact x0) ?_))
  · rw [decide_eq_true (by decide)] at ps
    rw [decide_eq_true (show (1 : Rat) ≤ 1 by decide)] at e1
    refine ⟨1, 1, ?_, szR_mono one_q (by omega), szR_mono one_q (by omega), .inr (.inl ⟨rfl, rfl, rfl⟩)⟩
    refine Go.Ev.Fn.intro (fn := Tryz.f19) (body := (Tryz.f19).body.get!) (by kernel_rfl) (by kernel_rfl) (by kernel_rfl) (fun _ => rfl) (Nat.le_of_ble_eq_true (by kernel_rfl)) ?_; unfold Tryz.f19; simp only [Option.get!_some]
    repeat (first | (simp only [go_sem, Nat.reduceEqDiff, Nat.reduceAdd, Nat.reduceSub, Nat.reduceMul, Nat.reduceLeDiff, Nat.reduceLT, reduceIte, reduceCtorEq, Nat.succ_ne_zero, elemsC, Int.reduceToNat, Nat.reducePow, Bool.not_true, e1]) | (simp (disch := (first | omega | (simp only [AL, List.length_map]; omega))) only [AR, AL, ifT, ifF, take_all, List.length_cons, List.length_nil, Int.reduceToNat, Int.reducePow, Nat.reducePow, Bool.not_true, e1]) | (refine wk_intro (by kernel_rfl) ?_) | (refine vp_draw (id := 6) (l := []) (by kernel_rfl) ?_) | (refine vp_draw (id := 18) (l := []) (by kernel_rfl) ?_) | (refine vp_draw (id := 20) (l := []) (by kernel_rfl) ?_) | (refine vp_draw (id := 22) (l := []) (by kernel_rfl) ?_) | (refine vp_draw (id := 23) (l := []) (by kernel_rfl) ?_) | (refine vp_draw (id := 24) (l := []) (by kernel_rfl) ?_) | (refine vf_of (by first | exact ck | exact ps | exact i1 | exact c1 | exact x1) ?_))
  · rw [decide_eq_true h0] at ps
    rw [decide_eq_false (show ¬ 1 ≤ x by grind)] at e1
    obtain ⟨l, h, f, zl, zh, A, B⟩ := ref12_ballW (a := n) (b := 3) (p := 80) (RatA_rv zx) (by omega) (by omega) (by omega) (by omega) (by omega) (by omega) (by omega) h0 h1
    have e100 : (((80 : Nat) : Int) + 20) = 100 := rfl
    rw [e100] at f
    have lm := ref14_limit l h
    refine ⟨l, h, ?_, zl, zh, .inr (.inr ⟨h0, h1, A, B⟩)⟩
    clear A B
    refine Go.Ev.Fn.intro (fn := Tryz.f19) (body := (Tryz.f19).body.get!) (by kernel_rfl) (by kernel_rfl) (by kernel_rfl) (fun _ => rfl) (Nat.le_of_ble_eq_true (by kernel_rfl)) ?_; unfold Tryz.f19; simp only [Option.get!_some]
    repeat (first | (simp only [go_sem, Nat.reduceEqDiff, Nat.reduceAdd, Nat.reduceSub, Nat.reduceMul, Nat.reduceLeDiff, Nat.reduceLT, reduceIte, reduceCtorEq, Nat.succ_ne_zero, elemsC, Int.reduceToNat, Nat.reducePow, Bool.not_true, e1]) | (simp (disch := (first | omega | (simp only [AL, List.length_map]; omega))) only [AR, AL, ifT, ifF, take_all, List.length_cons, List.length_nil, Int.reduceToNat, Int.reducePow, Nat.reducePow, Bool.not_true, e1]) | (refine wk_intro (by kernel_rfl) ?_) | (refine vp_draw (id := 6) (l := []) (by kernel_rfl) ?_) | (refine vp_draw (id := 18) (l := []) (by kernel_rfl) ?_) | (refine vp_draw (id := 20) (l := []) (by kernel_rfl) ?_) | (refine vp_draw (id := 22) (l := []) (by kernel_rfl) ?_) | (refine vp_draw (id := 23) (l := []) (by kernel_rfl) ?_) | (refine vp_draw (id := 24) (l := []) (by kernel_rfl) ?_) | (refine vf_of (by first | exact ck | exact ps | exact i1 | exact c1 | exact f | exact lm) ?_))
section
variable {a b : Nat} {x l h : Rat}
theorem lo_hi1 (A : Lo1 a b x l) (B : Hi1 a b x h) : l ≤ h := by
  obtain ⟨B0, K', B⟩ := B
  rcases A with A | ⟨K, A⟩
  · grind
  · have g := A (max K K') (by omega)
    have g' := B (max K K') (by omega)
    rcases Rat.le_total (a := l) (b := 0) with l0 | l0
    · grind
    · exact sq_mon l0 B0 (Rat.le_trans g g')
theorem lo_hi (A : LoS a b x l) (B : HiS a b x h) : l ≤ h := by
  rcases A with ⟨k, A⟩ | ⟨k, A⟩ <;> rcases B with ⟨k', B⟩ | ⟨k', B⟩
  · exact lo_hi1 A B
  · exact absurd k (by grind)
  · exact absurd k' (by grind)
  · have := lo_hi1 B A
    grind
end
theorem back_sides {n : Nat} {q lo hi l h l' h' : Rat} (L : LowOk n 3 q lo) (H : HighOk n 3 q hi) (q0 : 0 < q) (q1 : q < 1) (c1 : (lo = 0 ∧ l = 0 ∧ h = 0) ∨ (lo = 1 ∧ l = 1 ∧ h = 1) ∨ (0 < lo ∧ lo < 1 ∧ LoS n 3 lo l ∧ HiS n 3 lo h))
    (c2 : (hi = 0 ∧ l' = 0 ∧ h' = 0) ∨ (hi = 1 ∧ l' = 1 ∧ h' = 1) ∨ (0 < hi ∧ hi < 1 ∧ LoS n 3 hi l' ∧ HiS n 3 hi h')) (e1 : lo < 1) (e2 : 0 < hi) : l ≤ q ∧ q ≤ h' := by
  constructor
  · rcases L.2 with e | ⟨_, u, U, hu⟩
    · rcases c1 with ⟨-, rfl, -⟩ | ⟨e', -, -⟩ | ⟨e', -⟩ <;> grind
    · rcases c1 with ⟨e, rfl, -⟩ | ⟨e, -, -⟩ | ⟨-, -, A, -⟩
      · grind
      · grind
      · have := lo_hi A U
        grind
  · rcases H.2 with e | ⟨_, u, U, hu⟩
    · rcases c2 with ⟨e', -, -⟩ | ⟨-, -, rfl⟩ | ⟨-, e', -⟩ <;> grind
    · rcases c2 with ⟨e, -, -⟩ | ⟨e, -, rfl⟩ | ⟨-, -, -, B⟩
      · grind
      · grind
      · have := lo_hi U B
        grind
set_option maxHeartbeats 4000000 in
theorem back_law (a0 : Int) (w0 : (Lit.int .i64 a0).wf = true) (ss1 : List SV) (sh1 : ShpT Tryz.prog 6 24 ss1) (a2 : Int) (w2 : (Lit.int .i64 a2).wf = true) :
    Go.Ev.Fn CX 5 [.int .i64 a0, .agg ss1, .int .i64 a2] (.bool true) := by
  obtain ⟨s, nn, dd, rfl, hnn, hdd, -, -⟩ := shp_rat sh1
  by_cases h1 : a0 < 1
  · refine Go.Ev.Fn.intro (fn := Tryz.f5) (body := (Tryz.f5).body.get!) (by kernel_rfl) (by kernel_rfl) (by kernel_rfl) (fun _ => rfl) (Nat.le_of_ble_eq_true (by kernel_rfl)) ?_; unfold Tryz.f5; simp only [Option.get!_some]
    repeat (first | (simp only [go_sem, Nat.reduceEqDiff, Nat.reduceAdd, Nat.reduceSub, Nat.reduceMul, Nat.reduceLeDiff, Nat.reduceLT, reduceIte, reduceCtorEq, Nat.succ_ne_zero, elemsC, Int.reduceToNat, Nat.reducePow]) | (simp (disch := (first | omega | (simp only [AL, List.length_map]; omega))) only [AR, AL, ifT, ifF, take_all, List.length_cons, List.length_nil, Int.reduceToNat, Int.reducePow, Nat.reducePow]) | (refine wk_intro (by kernel_rfl) ?_) | (refine vp_draw (id := 5) (l := []) (by kernel_rfl) ?_))
  by_cases h2 : 12 < a0
  · refine Go.Ev.Fn.intro (fn := Tryz.f5) (body := (Tryz.f5).body.get!) (by kernel_rfl) (by kernel_rfl) (by kernel_rfl) (fun _ => rfl) (Nat.le_of_ble_eq_true (by kernel_rfl)) ?_; unfold Tryz.f5; simp only [Option.get!_some]
    repeat (first | (simp only [go_sem, Nat.reduceEqDiff, Nat.reduceAdd, Nat.reduceSub, Nat.reduceMul, Nat.reduceLeDiff, Nat.reduceLT, reduceIte, reduceCtorEq, Nat.succ_ne_zero, elemsC, Int.reduceToNat, Nat.reducePow]) | (simp (disch := (first | omega | (simp only [AL, List.length_map]; omega))) only [AR, AL, ifT, ifF, take_all, List.length_cons, List.length_nil, Int.reduceToNat, Int.reducePow, Nat.reducePow]) | (refine wk_intro (by kernel_rfl) ?_) | (refine vp_draw (id := 5) (l := []) (by kernel_rfl) ?_))
  by_cases h3 : 1 < nn.length
  · refine Go.Ev.Fn.intro (fn := Tryz.f5) (body := (Tryz.f5).body.get!) (by kernel_rfl) (by kernel_rfl) (by kernel_rfl) (fun _ => rfl) (Nat.le_of_ble_eq_true (by kernel_rfl)) ?_; unfold Tryz.f5; simp only [Option.get!_some]
    repeat (first | (simp only [go_sem, Nat.reduceEqDiff, Nat.reduceAdd, Nat.reduceSub, Nat.reduceMul, Nat.reduceLeDiff, Nat.reduceLT, reduceIte, reduceCtorEq, Nat.succ_ne_zero, elemsC, Int.reduceToNat, Nat.reducePow]) | (simp (disch := (first | omega | (simp only [AL, List.length_map]; omega))) only [AR, AL, ifT, ifF, take_all, List.length_cons, List.length_nil, Int.reduceToNat, Int.reducePow, Nat.reducePow]) | (refine wk_intro (by kernel_rfl) ?_) | (refine vp_draw (id := 5) (l := []) (by kernel_rfl) ?_))
  by_cases h4 : 1 < dd.length
  · refine Go.Ev.Fn.intro (fn := Tryz.f5) (body := (Tryz.f5).body.get!) (by kernel_rfl) (by kernel_rfl) (by kernel_rfl) (fun _ => rfl) (Nat.le_of_ble_eq_true (by kernel_rfl)) ?_; unfold Tryz.f5; simp only [Option.get!_some]
    repeat (first | (simp only [go_sem, Nat.reduceEqDiff, Nat.reduceAdd, Nat.reduceSub, Nat.reduceMul, Nat.reduceLeDiff, Nat.reduceLT, reduceIte, reduceCtorEq, Nat.succ_ne_zero, elemsC, Int.reduceToNat, Nat.reducePow]) | (simp (disch := (first | omega | (simp only [AL, List.length_map]; omega))) only [AR, AL, ifT, ifF, take_all, List.length_cons, List.length_nil, Int.reduceToNat, Int.reducePow, Nat.reducePow]) | (refine wk_intro (by kernel_rfl) ?_) | (refine vp_draw (id := 5) (l := []) (by kernel_rfl) ?_))
  by_cases h5 : a2 < 0
  · refine Go.Ev.Fn.intro (fn := Tryz.f5) (body := (Tryz.f5).body.get!) (by kernel_rfl) (by kernel_rfl) (by kernel_rfl) (fun _ => rfl) (Nat.le_of_ble_eq_true (by kernel_rfl)) ?_; unfold Tryz.f5; simp only [Option.get!_some]
    repeat (first | (simp only [go_sem, Nat.reduceEqDiff, Nat.reduceAdd, Nat.reduceSub, Nat.reduceMul, Nat.reduceLeDiff, Nat.reduceLT, reduceIte, reduceCtorEq, Nat.succ_ne_zero, elemsC, Int.reduceToNat, Nat.reducePow]) | (simp (disch := (first | omega | (simp only [AL, List.length_map]; omega))) only [AR, AL, ifT, ifF, take_all, List.length_cons, List.length_nil, Int.reduceToNat, Int.reducePow, Nat.reducePow]) | (refine wk_intro (by kernel_rfl) ?_) | (refine vp_draw (id := 5) (l := []) (by kernel_rfl) ?_))
  by_cases h6 : 16 < a2
  · refine Go.Ev.Fn.intro (fn := Tryz.f5) (body := (Tryz.f5).body.get!) (by kernel_rfl) (by kernel_rfl) (by kernel_rfl) (fun _ => rfl) (Nat.le_of_ble_eq_true (by kernel_rfl)) ?_; unfold Tryz.f5; simp only [Option.get!_some]
    repeat (first | (simp only [go_sem, Nat.reduceEqDiff, Nat.reduceAdd, Nat.reduceSub, Nat.reduceMul, Nat.reduceLeDiff, Nat.reduceLT, reduceIte, reduceCtorEq, Nat.succ_ne_zero, elemsC, Int.reduceToNat, Nat.reducePow]) | (simp (disch := (first | omega | (simp only [AL, List.length_map]; omega))) only [AR, AL, ifT, ifF, take_all, List.length_cons, List.length_nil, Int.reduceToNat, Int.reducePow, Nat.reducePow]) | (refine wk_intro (by kernel_rfl) ?_) | (refine vp_draw (id := 5) (l := []) (by kernel_rfl) ?_))
  obtain ⟨n, rfl⟩ : ∃ n : Nat, a0 = n := ⟨a0.toNat, by omega⟩
  obtain ⟨p, rfl⟩ : ∃ p : Nat, a2 = p := ⟨a2.toNat, by omega⟩
  have hn : 1 ≤ n ∧ n ≤ 12 := by omega
  have hp : p ≤ 16 := by omega
  have hK := known15_fn
  obtain ⟨q, hq⟩ : ∃ q : Rat, q = mkRat (sgn s (wth nn)) (wth dd) := ⟨_, rfl⟩
  have hv : RatA (ratV s nn dd) q 1 := ⟨s, nn, dd, rfl, hnn, hdd, by omega, by omega, hq⟩
  have zq := szR_of hv (by omega)
  have i0 := ref2_Int 0 (by omega)
  have i1 := ref2_Int 1 (by omega)
  have c0 := ref2_Cmp hv (RatA_rv (int_szR (n := 0) (by omega))) (by omega) (by omega) (by omega)
  have c1 := ref2_Cmp hv (RatA_rv (int_szR (n := 1) (by omega))) (by omega) (by omega) (by omega)
  have e0 := cmpR_le (q := q) (r := ((0 : Int) : Rat))
  have e1 := cmpR_ge (q := q) (r := ((1 : Int) : Rat))
  have k0 : ((0 : Int) : Rat) = 0 := rfl
  have k1 : ((1 : Int) : Rat) = 1 := rfl
  rw [k0] at i0 c0 e0
  rw [k1] at i1 c1 e1
  by_cases ho : q ≤ 0 ∨ 1 ≤ q
  · have of := of_out (n := n) (p := p) hn hv ho
    by_cases g0 : q ≤ 0
    · rw [decide_eq_true g0] at e0
      refine Go.Ev.Fn.intro (fn := Tryz.f5) (body := (Tryz.f5).body.get!) (by kernel_rfl) (by kernel_rfl) (by kernel_rfl) (fun _ => rfl) (Nat.le_of_ble_eq_true (by kernel_rfl)) ?_; unfold Tryz.f5; simp only [Option.get!_some]
      repeat (first | (simp only [go_sem, Nat.reduceEqDiff, Nat.reduceAdd, Nat.reduceSub, Nat.reduceMul, Nat.reduceLeDiff, Nat.reduceLT, reduceIte, reduceCtorEq, Nat.succ_ne_zero, elemsC, Int.reduceToNat, Nat.reducePow, e0]) | (simp (disch := (first | omega | (simp only [AL, List.length_map]; omega))) only [AR, AL, ifT, ifF, take_all, List.length_cons, List.length_nil, Int.reduceToNat, Int.reducePow, Nat.reducePow, e0]) | (refine wk_intro (by kernel_rfl) ?_) | (refine vp_draw (id := 5) (l := []) (by kernel_rfl) ?_) | (refine vf_of (by first | exact of | exact i0 | exact c0 | exact hK) ?_))
    · rw [decide_eq_false g0] at e0
      rw [decide_eq_true (ho.resolve_left g0)] at e1
      refine Go.Ev.Fn.intro (fn := Tryz.f5) (body := (Tryz.f5).body.get!) (by kernel_rfl) (by kernel_rfl) (by kernel_rfl) (fun _ => rfl) (Nat.le_of_ble_eq_true (by kernel_rfl)) ?_; unfold Tryz.f5; simp only [Option.get!_some]
      repeat (first | (simp only [go_sem, Nat.reduceEqDiff, Nat.reduceAdd, Nat.reduceSub, Nat.reduceMul, Nat.reduceLeDiff, Nat.reduceLT, reduceIte, reduceCtorEq, Nat.succ_ne_zero, elemsC, Int.reduceToNat, Nat.reducePow, e0, e1]) | (simp (disch := (first | omega | (simp only [AL, List.length_map]; omega))) only [AR, AL, ifT, ifF, take_all, List.length_cons, List.length_nil, Int.reduceToNat, Int.reducePow, Nat.reducePow, e0, e1]) | (refine wk_intro (by kernel_rfl) ?_) | (refine vp_draw (id := 5) (l := []) (by kernel_rfl) ?_) | (refine vf_of (by first | exact of | exact i0 | exact c0 | exact i1 | exact c1 | exact hK) ?_))
  · have q0 : 0 < q := by grind
    have q1 : q < 1 := by grind
    rw [decide_eq_false (show ¬ q ≤ 0 by grind)] at e0
    rw [decide_eq_false (show ¬ 1 ≤ q by grind)] at e1
    obtain ⟨k, lo, hi, S, hk, of⟩ := of_in hn hp hv q0 q1
    have zl := dy_sz S.dlo (by omega)
    have zh := dy_sz S.dhi (by omega)
    have l0 := S.low.1
    have h1' := S.high.1
    have lt := S.lt
    obtain ⟨l, h, f, y1, y2, cl⟩ := ref14_beta hn zl (by
      by_cases e : lo = 0
      · exact .inl e
      · exact .inr (.inr ⟨by grind, by grind⟩))
    obtain ⟨l', h', f', y1', y2', cl'⟩ := ref14_beta hn zh (by
      by_cases e : hi = 1
      · exact .inr (.inl e)
      · exact .inr (.inr ⟨by grind, by grind⟩))
    obtain ⟨b1, b2⟩ := back_sides S.low S.high q0 q1 cl cl' (by grind) (by grind)
    have d1 := ref2_Cmp (RatA_rv y1) hv (by omega) (by omega) (by omega)
    have d2 := ref2_Cmp (RatA_rv y2') hv (by omega) (by omega) (by omega)
    have g1 := cmpR_le (q := l) (r := q)
    have g2 := cmpR_ge (q := h') (r := q)
    rw [decide_eq_true b1] at g1
    rw [decide_eq_true b2] at g2
    clear cl cl' b1 b2 S l0 h1' lt ho q0 q1 k0 k1
    refine Go.Ev.Fn.intro (fn := Tryz.f5) (body := (Tryz.f5).body.get!) (by kernel_rfl) (by kernel_rfl) (by kernel_rfl) (fun _ => rfl) (Nat.le_of_ble_eq_true (by kernel_rfl)) ?_; unfold Tryz.f5; simp only [Option.get!_some]
    repeat (first | (simp only [go_sem, Nat.reduceEqDiff, Nat.reduceAdd, Nat.reduceSub, Nat.reduceMul, Nat.reduceLeDiff, Nat.reduceLT, reduceIte, reduceCtorEq, Nat.succ_ne_zero, elemsC, Int.reduceToNat, Nat.reducePow, e0, e1, g1, g2]) | (simp (disch := (first | omega | (simp only [AL, List.length_map]; omega))) only [AR, AL, ifT, ifF, take_all, List.length_cons, List.length_nil, Int.reduceToNat, Int.reducePow, Nat.reducePow, e0, e1, g1, g2]) | (refine wk_intro (by kernel_rfl) ?_) | (refine vp_draw (id := 5) (l := []) (by kernel_rfl) ?_) | (refine vf_of (by first | exact of | exact i0 | exact c0 | exact i1 | exact c1 | exact f | exact f' | exact d1 | exact d2 | exact hK) ?_))
end Go.Proofs.YtecjelnpmcnbaaaGreat
