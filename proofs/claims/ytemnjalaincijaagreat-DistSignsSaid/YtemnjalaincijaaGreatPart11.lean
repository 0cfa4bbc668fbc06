/- Part 11 of the proof: the evaluator, contracts of functions and their plain laws (joined by program). No condition. -/
import Derived.Test.YtemnjalaincijaaGreatPart10
/- vernierlaw14.DistSigns, in the evaluator. -/
namespace Go.Proofs.YtemnjalaincijaaGreat
set_option linter.unusedSimpArgs false
set_option linter.unusedVariables false
set_option maxRecDepth 8000
open Go.Ev
set_option linter.unusedVariables false
theorem wf_int64G {n : Int} (h : (Lit.int .i64 n).wf = true) : -9223372036854775808 ≤ n ∧ n < 9223372036854775808 := by
  have h' : decide (IntKind.i64.min ≤ n ∧ n ≤ IntKind.i64.max) = true := by simpa [Lit.wf] using h
  have := of_decide_eq_true h'
  simp only [show IntKind.i64.min = -9223372036854775808 from rfl, show IntKind.i64.max = 9223372036854775807 from rfl] at this
  omega
theorem chk_stud {n : Int} (hn : 1 ≤ n ∧ n ≤ 256) : chkD 5 n 0 0 0 = 0 := by
  unfold chkD
  rw [show inD 5 n 0 0 0 = decide (1 ≤ n) from rfl, show gtD 5 n 0 0 = decide (256 < n) from rfl, decide_eq_true hn.1, decide_eq_false (show ¬ 256 < n by omega)]
  rfl
theorem div_in {u w : Rat} (hu : 0 < u) (hw : 0 < w) : 0 < u / (u + w) ∧ u / (u + w) < 1 := by
  have hs : 0 < u + w := by grind
  have hi := Rat.inv_pos.2 hs
  have e : (u + w) * (u + w)⁻¹ = 1 := Rat.mul_inv_cancel _ (by grind)
  rw [Rat.div_def]
  have a := Rat.mul_pos hu hi
  have b := Rat.mul_pos hw hi
  generalize (u + w)⁻¹ = z at *
  exact ⟨a, by grind⟩
theorem sq_pos {x : Rat} (h : x ≠ 0) : 0 < x * x := by
  rcases Rat.le_total (a := 0) (b := x) with g | g
  · exact Rat.mul_pos (by grind) (by grind)
  · have := Rat.mul_pos (show 0 < -x by grind) (show 0 < -x by grind)
    grind
/-- Two shares of the curve that are each other's mirror. -/
theorem phi_pair {z : Rat} {P : Nat} (hz : szR z 3) (hP : P ≤ 96) : ∃ a b c d : Rat, ∃ ok : Bool, Go.Ev.Fn CX 40 [rv z, .int .i64 (P : Int)] (.tup [ballR a b, .bool ok]) ∧ Go.Ev.Fn CX 40 [rv (-z), .int .i64 (P : Int)] (.tup [ballR c d, .bool ok]) ∧
    szR a 500 ∧ szR b 500 ∧ szR c 500 ∧ szR d 500 ∧ (ok = true → 1 - d ≤ b ∧ a ≤ 1 - c) := by
  have z0 : szR 0 500 := szR_zero (by omega)
  have zn := szR_neg hz
  by_cases far : z < -8 ∨ 8 < z
  · exact ⟨0, 0, 0, 0, false, bell_PhiFar (RatA_rv hz) far, bell_PhiFar (RatA_rv zn) (far.elim (fun h => .inr (by grind)) (fun h => .inl (by grind))), z0, z0, z0, z0, fun h => by cases h⟩
  have n1 : -8 ≤ z := Rat.not_lt.1 fun h => far (.inl h)
  have n2 : z ≤ 8 := Rat.not_lt.1 fun h => far (.inr h)
  have zh := szR_mono hlf_len (show 1 ≤ 500 by omega)
  by_cases e : z = 0
  · subst e
    rw [Rat.neg_zero]
    exact ⟨1 / 2, 1 / 2, 1 / 2, 1 / 2, true, bell_Phi0 (RatA_rv hz), bell_Phi0 (RatA_rv hz), zh, zh, zh, zh, fun _ => by decide +kernel⟩
  rcases Rat.le_total (a := 0) (b := z) with g | g
  · obtain ⟨l, h, t1, t2, t3, f1, f2⟩ := bell_Phi (pI := (P : Int)) hz (by grind) n2 (.inr rfl) hP
    refine ⟨_, _, _, _, true, f1 _ (RatA_rv hz), f2 _ (RatA_rv zn), szR_mono (szR_add hlf_len t2 (by omega)) (by omega), szR_mono (szR_add hlf_len t3 (by omega)) (by omega), szR_mono (szR_add hlf_len (szR_neg t3) (by omega)) (by omega), szR_mono (szR_add hlf_len (szR_neg t2) (by omega)) (by omega), fun _ => ?_⟩
    have hh : (1 / 2 : Rat) + 1 / 2 = 1 := by decide +kernel
    generalize (1 / 2 : Rat) = hf at *
    clear f1 f2
    constructor <;> grind
  · obtain ⟨l, h, t1, t2, t3, f1, f2⟩ := bell_Phi (z := -z) (pI := (P : Int)) zn (by grind) (by grind) (.inr rfl) hP
    have hv' : RatA (rv z) (- -z) 3 := by rw [Rat.neg_neg]; exact RatA_rv hz
    refine ⟨_, _, _, _, true, f2 _ hv', f1 _ (RatA_rv zn), szR_mono (szR_add hlf_len (szR_neg t3) (by omega)) (by omega), szR_mono (szR_add hlf_len (szR_neg t2) (by omega)) (by omega), szR_mono (szR_add hlf_len t2 (by omega)) (by omega), szR_mono (szR_add hlf_len t3 (by omega)) (by omega), fun _ => ?_⟩
    have hh : (1 / 2 : Rat) + 1 / 2 = 1 := by decide +kernel
    generalize (1 / 2 : Rat) = hf at *
    clear f1 f2
    constructor <;> grind
section
variable {v : SV} {x l h mean : Rat} {L : Nat} {n p : Int} {sm sx : Bool} {nm dm nx dx : List Nat}
theorem distE_Above {k m : Int} {ok : Bool} {sa sb : Bool} {na da nb db : List Nat} (hx : RatA v x L) (z1 : szR l 500) (z2 : szR h 500)
    (f : Go.Ev.Fn CX 49 [distV k n m sa na da sb nb db, v, .int .i64 p] (cdfV ok l h)) :
    Go.Ev.Fn CX 51 [distV k n m sa na da sb nb db, v, .int .i64 p] (cdfV ok (1 - h) (1 - l)) := by
  have d1 := distE_one
  have bs := ball_Sub (a := 1) (b := 1) (L := 500) (szR_mono unit_len (by omega)) (szR_mono unit_len (by omega)) z1 z2 (by omega) (by omega)
  clear z1 z2
  obtain ⟨s, nn, dd, rfl, -⟩ := hx
  generalize 1 - h = u1 at *
  generalize 1 - l = u2 at *
  cases ok with
  | true =>
    have f' : Go.Ev.Fn CX 49 [distV k n m sa na da sb nb db, ratV s nn dd, .int .i64 p] (.tup [ballR l h, .int .i64 0]) := f
    clear f
    show Go.Ev.Fn CX _ _ (.tup [ballR u1 u2, .int .i64 0])
    refine Go.Ev.Fn.intro (fn := Tryz.f51) (body := (Tryz.f51).body.get!) (by kernel_rfl) (by kernel_rfl) (by kernel_rfl) (fun _ => rfl) (Nat.le_of_ble_eq_true (by kernel_rfl)) ?_; unfold Tryz.f51; simp only [Option.get!_some]
    repeat (first | (simp only [go_sem, Nat.reduceEqDiff, Nat.reduceAdd, Nat.reduceSub, Nat.reduceMul, Nat.reduceLeDiff, Nat.reduceLT, reduceIte, reduceCtorEq, Nat.succ_ne_zero, elemsC, Int.reduceToNat, Nat.reducePow]) | (simp (disch := (first | omega | (simp only [AL, List.length_map]; omega))) only [AR, AL, ifT, ifF, take_all, List.length_cons, List.length_nil, Int.reduceToNat, Int.reducePow, Nat.reducePow]) | (refine wk_intro (by kernel_rfl) ?_) | (refine vp_draw (id := 4) (l := []) (by kernel_rfl) ?_) | (refine vf_of (by first | exact f' | exact d1 | exact bs) ?_))
  | false =>
    have f' : Go.Ev.Fn CX 49 [distV k n m sa na da sb nb db, ratV s nn dd, .int .i64 p] (.tup [noB, .int .i64 7]) := f
    clear f
    show Go.Ev.Fn CX _ _ (.tup [noB, .int .i64 7])
    refine Go.Ev.Fn.intro (fn := Tryz.f51) (body := (Tryz.f51).body.get!) (by kernel_rfl) (by kernel_rfl) (by kernel_rfl) (fun _ => rfl) (Nat.le_of_ble_eq_true (by kernel_rfl)) ?_; unfold Tryz.f51; simp only [Option.get!_some]
    repeat (first | (simp only [go_sem, Nat.reduceEqDiff, Nat.reduceAdd, Nat.reduceSub, Nat.reduceMul, Nat.reduceLeDiff, Nat.reduceLT, reduceIte, reduceCtorEq, Nat.succ_ne_zero, elemsC, Int.reduceToNat, Nat.reducePow]) | (simp (disch := (first | omega | (simp only [AL, List.length_map]; omega))) only [AR, AL, ifT, ifF, take_all, List.length_cons, List.length_nil, Int.reduceToNat, Int.reducePow, Nat.reducePow]) | (refine wk_intro (by kernel_rfl) ?_) | (refine vp_draw (id := 4) (l := []) (by kernel_rfl) ?_) | (refine vf_of (by first | exact f') ?_))
/-- Student's chance of a number, and of its mirror: two balls that meet. -/
theorem stud_pair {P : Nat} (hn : 1 ≤ n ∧ n ≤ 16) (hx : szR x 2) (hP : P ≤ 60) : ∃ a b c d : Rat, (∀ v, RatA v x 2 → Go.Ev.Fn CX 49 [distV 5 n 0 false [] [] false [] [], v, .int .i64 (P : Int)] (cdfV true a b)) ∧ (∀ v, RatA v (-x) 2 → Go.Ev.Fn CX 49 [distV 5 n 0 false [] [] false [] [], v, .int .i64 (P : Int)] (cdfV true c d)) ∧
    szR a 500 ∧ szR b 500 ∧ szR c 500 ∧ szR d 500 ∧ 1 - d ≤ b ∧ a ≤ 1 - c := by
  have zn := szR_neg hx
  have ey : stuY n (-x) = stuY n x := by
    unfold stuY
    rw [show -x * -x = x * x by grind]
  have np : (0 : Rat) < (n : Rat) := Rat.intCast_pos.2 (by omega)
  obtain ⟨N, rfl⟩ : ∃ K : Nat, n = (K : Int) := ⟨n.toNat, by omega⟩
  have key : ∃ l h : Rat, Go.Ev.Fn CX 167 [.int .i64 (N : Int), .int .i64 1, rv (stuY (N : Int) x), .int .i64 (P : Int)] (.tup [ballR l h, .bool true]) ∧ szR l 200 ∧ szR h 200 ∧ l ≤ h ∧ (x = 0 → l = 1 ∧ h = 1) := by
    by_cases e : x = 0
    · have y1 : stuY (N : Int) x = 1 := by
        subst e
        unfold stuY
        rw [show (((N : Int) : Rat) + 0 * 0) = ((N : Int) : Rat) by grind, Rat.div_def]
        exact Rat.mul_inv_cancel _ (by grind)
      rw [y1]
      exact ⟨1, 1, incb_I_ends (RatA_rv one_len) (by omega) (by omega) (by omega) (by omega) (.inr rfl), szR_mono one_len (by omega), szR_mono one_len (by omega), Rat.le_refl, fun _ => ⟨rfl, rfl⟩⟩
    · obtain ⟨y0, y1⟩ := div_in np (sq_pos e)
      obtain ⟨l, h, l', h', f1, -, z1, z2, -, -, g0, -, -⟩ := incb_pair (a := N) (b := 1) (p := P) (stuY_sz (n := (N : Int)) (by omega) hx (by omega)) (by omega) (by omega) (by omega) (by omega) (by omega) (by omega) (by omega) y0 y1
      exact ⟨l, h, f1, z1, z2, g0, fun c => absurd c e⟩
  obtain ⟨l, h, f, z1, z2, g, eq⟩ := key
  have hl := szR_mono (szR_mul z1 hfQ_len (by omega)) (show 200 + 1 ≤ 300 by omega)
  have hh := szR_mono (szR_mul z2 hfQ_len (by omega)) (show 200 + 1 ≤ 300 by omega)
  have g2 := Rat.mul_le_mul_of_nonneg_right g (show (0 : Rat) ≤ 1 / 2 by decide +kernel)
  have s1 := szR_mono hl (show 300 ≤ 500 by omega)
  have s2 := szR_mono hh (show 300 ≤ 500 by omega)
  have s3 := szR_mono (szR_sub one_len hh (by omega)) (show 1 + 300 + 1 ≤ 500 by omega)
  have s4 := szR_mono (szR_sub one_len hl (by omega)) (show 1 + 300 + 1 ≤ 500 by omega)
  have b1 := fun (v : SV) (hv : RatA v x 2) => distE_Cdf (k := 5) (n := (N : Int)) (m := 0) nil_RatE nil_RatE (by omega) (by omega) (chk_stud (by omega)) hv (P := P) (by omega) (chance_student (m := 0) (sa := false) (sb := false) (na := []) (da := []) (nb := []) (db := []) hv (dist_student (by omega) hv (by omega) (by omega) f z1 z2 g) ⟨_, _, rfl⟩)
  have b2 := fun (v : SV) (hv : RatA v (-x) 2) => distE_Cdf (k := 5) (n := (N : Int)) (m := 0) nil_RatE nil_RatE (by omega) (by omega) (chk_stud (by omega)) hv (P := P) (by omega) (chance_student (m := 0) (sa := false) (sb := false) (na := []) (da := []) (nb := []) (db := []) hv (dist_student (by omega) hv (by omega) (by omega) (by rw [ey]; exact f) z1 z2 g) ⟨_, _, rfl⟩)
  refine ⟨_, _, _, _, b1, b2, ?_⟩
  clear b1 b2 f
  by_cases c1 : x < 0
  · have u1 : stuB x l h = (l * (1 / 2), h * (1 / 2)) := if_pos c1
    have u2 : stuB (-x) l h = (1 - h * (1 / 2), 1 - l * (1 / 2)) := if_neg (by grind)
    rw [u1, u2]
    exact ⟨s1, s2, s3, s4, by grind, by grind⟩
  · have u1 : stuB x l h = (1 - h * (1 / 2), 1 - l * (1 / 2)) := if_neg c1
    rw [u1]
    by_cases c2 : x = 0
    · have u2 : stuB (-x) l h = (1 - h * (1 / 2), 1 - l * (1 / 2)) := if_neg (by grind)
      obtain ⟨rfl, rfl⟩ := eq c2
      rw [u2]
      refine ⟨s3, s4, s3, s4, ?_, ?_⟩
      · show (1 : Rat) - (1 - 1 * (1 / 2)) ≤ 1 - 1 * (1 / 2)
        decide +kernel
      · show (1 : Rat) - 1 * (1 / 2) ≤ 1 - (1 - 1 * (1 / 2))
        decide +kernel
    · have u2 : stuB (-x) l h = (l * (1 / 2), h * (1 / 2)) := if_pos (by grind)
      rw [u2]
      exact ⟨s3, s4, s1, s2, by grind, by grind⟩
set_option maxHeartbeats 2000000 in
theorem signs_out (hn : -9223372036854775808 ≤ n ∧ n < 9223372036854775808) (h1 : nx.length ≤ 9223372036854775807) (h2 : dx.length ≤ 9223372036854775807) (h3 : nm.length ≤ 9223372036854775807) (h4 : dm.length ≤ 9223372036854775807) (hp : -9223372036854775808 ≤ p ∧ p < 9223372036854775808)
    (h : 2 < nx.length ∨ 2 < dx.length ∨ 1 < nm.length ∨ 1 < dm.length ∨ p < 0 ∨ 50 < p ∨ n < 1 ∨ 16 < n) : Go.Ev.Fn CX 14 [.int .i64 n, ratV sx nx dx, ratV sm nm dm, .int .i64 p] (.bool true) := by
  by_cases c1 : 2 < nx.length
  · refine Go.Ev.Fn.intro (fn := Tryz.f14) (body := (Tryz.f14).body.get!) (by kernel_rfl) (by kernel_rfl) (by kernel_rfl) (fun _ => rfl) (Nat.le_of_ble_eq_true (by kernel_rfl)) ?_; unfold Tryz.f14; simp only [Option.get!_some]
    repeat (first | (simp only [go_sem, Nat.reduceEqDiff, Nat.reduceAdd, Nat.reduceSub, Nat.reduceMul, Nat.reduceLeDiff, Nat.reduceLT, reduceIte, reduceCtorEq, Nat.succ_ne_zero, elemsC, Int.reduceToNat, Nat.reducePow]) | (simp (disch := (first | omega | (simp only [AL, List.length_map]; omega))) only [AR, AL, ifT, ifF, take_all, List.length_cons, List.length_nil, Int.reduceToNat, Int.reducePow, Nat.reducePow]) | (refine wk_intro (by kernel_rfl) ?_) | (refine vp_draw (id := 3) (l := []) (by kernel_rfl) ?_) | (refine vp_draw (id := 5) (l := []) (by kernel_rfl) ?_) | (refine vp_draw (id := 6) (l := []) (by kernel_rfl) ?_) | (refine vp_draw (id := 8) (l := []) (by kernel_rfl) ?_))
  by_cases c2 : 2 < dx.length
  · refine Go.Ev.Fn.intro (fn := Tryz.f14) (body := (Tryz.f14).body.get!) (by kernel_rfl) (by kernel_rfl) (by kernel_rfl) (fun _ => rfl) (Nat.le_of_ble_eq_true (by kernel_rfl)) ?_; unfold Tryz.f14; simp only [Option.get!_some]
    repeat (first | (simp only [go_sem, Nat.reduceEqDiff, Nat.reduceAdd, Nat.reduceSub, Nat.reduceMul, Nat.reduceLeDiff, Nat.reduceLT, reduceIte, reduceCtorEq, Nat.succ_ne_zero, elemsC, Int.reduceToNat, Nat.reducePow]) | (simp (disch := (first | omega | (simp only [AL, List.length_map]; omega))) only [AR, AL, ifT, ifF, take_all, List.length_cons, List.length_nil, Int.reduceToNat, Int.reducePow, Nat.reducePow]) | (refine wk_intro (by kernel_rfl) ?_) | (refine vp_draw (id := 3) (l := []) (by kernel_rfl) ?_) | (refine vp_draw (id := 5) (l := []) (by kernel_rfl) ?_) | (refine vp_draw (id := 6) (l := []) (by kernel_rfl) ?_) | (refine vp_draw (id := 8) (l := []) (by kernel_rfl) ?_))
  by_cases c3 : 1 < nm.length
  · refine Go.Ev.Fn.intro (fn := Tryz.f14) (body := (Tryz.f14).body.get!) (by kernel_rfl) (by kernel_rfl) (by kernel_rfl) (fun _ => rfl) (Nat.le_of_ble_eq_true (by kernel_rfl)) ?_; unfold Tryz.f14; simp only [Option.get!_some]
    repeat (first | (simp only [go_sem, Nat.reduceEqDiff, Nat.reduceAdd, Nat.reduceSub, Nat.reduceMul, Nat.reduceLeDiff, Nat.reduceLT, reduceIte, reduceCtorEq, Nat.succ_ne_zero, elemsC, Int.reduceToNat, Nat.reducePow]) | (simp (disch := (first | omega | (simp only [AL, List.length_map]; omega))) only [AR, AL, ifT, ifF, take_all, List.length_cons, List.length_nil, Int.reduceToNat, Int.reducePow, Nat.reducePow]) | (refine wk_intro (by kernel_rfl) ?_) | (refine vp_draw (id := 3) (l := []) (by kernel_rfl) ?_) | (refine vp_draw (id := 5) (l := []) (by kernel_rfl) ?_) | (refine vp_draw (id := 6) (l := []) (by kernel_rfl) ?_) | (refine vp_draw (id := 8) (l := []) (by kernel_rfl) ?_))
  by_cases c4 : 1 < dm.length
  · refine Go.Ev.Fn.intro (fn := Tryz.f14) (body := (Tryz.f14).body.get!) (by kernel_rfl) (by kernel_rfl) (by kernel_rfl) (fun _ => rfl) (Nat.le_of_ble_eq_true (by kernel_rfl)) ?_; unfold Tryz.f14; simp only [Option.get!_some]
    repeat (first | (simp only [go_sem, Nat.reduceEqDiff, Nat.reduceAdd, Nat.reduceSub, Nat.reduceMul, Nat.reduceLeDiff, Nat.reduceLT, reduceIte, reduceCtorEq, Nat.succ_ne_zero, elemsC, Int.reduceToNat, Nat.reducePow]) | (simp (disch := (first | omega | (simp only [AL, List.length_map]; omega))) only [AR, AL, ifT, ifF, take_all, List.length_cons, List.length_nil, Int.reduceToNat, Int.reducePow, Nat.reducePow]) | (refine wk_intro (by kernel_rfl) ?_) | (refine vp_draw (id := 3) (l := []) (by kernel_rfl) ?_) | (refine vp_draw (id := 5) (l := []) (by kernel_rfl) ?_) | (refine vp_draw (id := 6) (l := []) (by kernel_rfl) ?_) | (refine vp_draw (id := 8) (l := []) (by kernel_rfl) ?_))
  by_cases c5 : p < 0
  · refine Go.Ev.Fn.intro (fn := Tryz.f14) (body := (Tryz.f14).body.get!) (by kernel_rfl) (by kernel_rfl) (by kernel_rfl) (fun _ => rfl) (Nat.le_of_ble_eq_true (by kernel_rfl)) ?_; unfold Tryz.f14; simp only [Option.get!_some]
    repeat (first | (simp only [go_sem, Nat.reduceEqDiff, Nat.reduceAdd, Nat.reduceSub, Nat.reduceMul, Nat.reduceLeDiff, Nat.reduceLT, reduceIte, reduceCtorEq, Nat.succ_ne_zero, elemsC, Int.reduceToNat, Nat.reducePow]) | (simp (disch := (first | omega | (simp only [AL, List.length_map]; omega))) only [AR, AL, ifT, ifF, take_all, List.length_cons, List.length_nil, Int.reduceToNat, Int.reducePow, Nat.reducePow]) | (refine wk_intro (by kernel_rfl) ?_) | (refine vp_draw (id := 3) (l := []) (by kernel_rfl) ?_) | (refine vp_draw (id := 5) (l := []) (by kernel_rfl) ?_) | (refine vp_draw (id := 6) (l := []) (by kernel_rfl) ?_) | (refine vp_draw (id := 8) (l := []) (by kernel_rfl) ?_))
  by_cases c6 : 50 < p
  · refine Go.Ev.Fn.intro (fn := Tryz.f14) (body := (Tryz.f14).body.get!) (by kernel_rfl) (by kernel_rfl) (by kernel_rfl) (fun _ => rfl) (Nat.le_of_ble_eq_true (by kernel_rfl)) ?_; unfold Tryz.f14; simp only [Option.get!_some]
    repeat (first | (simp only [go_sem, Nat.reduceEqDiff, Nat.reduceAdd, Nat.reduceSub, Nat.reduceMul, Nat.reduceLeDiff, Nat.reduceLT, reduceIte, reduceCtorEq, Nat.succ_ne_zero, elemsC, Int.reduceToNat, Nat.reducePow]) | (simp (disch := (first | omega | (simp only [AL, List.length_map]; omega))) only [AR, AL, ifT, ifF, take_all, List.length_cons, List.length_nil, Int.reduceToNat, Int.reducePow, Nat.reducePow]) | (refine wk_intro (by kernel_rfl) ?_) | (refine vp_draw (id := 3) (l := []) (by kernel_rfl) ?_) | (refine vp_draw (id := 5) (l := []) (by kernel_rfl) ?_) | (refine vp_draw (id := 6) (l := []) (by kernel_rfl) ?_) | (refine vp_draw (id := 8) (l := []) (by kernel_rfl) ?_))
  by_cases c7 : n < 1
  · refine Go.Ev.Fn.intro (fn := Tryz.f14) (body := (Tryz.f14).body.get!) (by kernel_rfl) (by kernel_rfl) (by kernel_rfl) (fun _ => rfl) (Nat.le_of_ble_eq_true (by kernel_rfl)) ?_; unfold Tryz.f14; simp only [Option.get!_some]
    repeat (first | (simp only [go_sem, Nat.reduceEqDiff, Nat.reduceAdd, Nat.reduceSub, Nat.reduceMul, Nat.reduceLeDiff, Nat.reduceLT, reduceIte, reduceCtorEq, Nat.succ_ne_zero, elemsC, Int.reduceToNat, Nat.reducePow]) | (simp (disch := (first | omega | (simp only [AL, List.length_map]; omega))) only [AR, AL, ifT, ifF, take_all, List.length_cons, List.length_nil, Int.reduceToNat, Int.reducePow, Nat.reducePow]) | (refine wk_intro (by kernel_rfl) ?_) | (refine vp_draw (id := 3) (l := []) (by kernel_rfl) ?_) | (refine vp_draw (id := 5) (l := []) (by kernel_rfl) ?_) | (refine vp_draw (id := 6) (l := []) (by kernel_rfl) ?_) | (refine vp_draw (id := 8) (l := []) (by kernel_rfl) ?_))
  · have c8 : 16 < n := by omega
    refine Go.Ev.Fn.intro (fn := Tryz.f14) (body := (Tryz.f14).body.get!) (by kernel_rfl) (by kernel_rfl) (by kernel_rfl) (fun _ => rfl) (Nat.le_of_ble_eq_true (by kernel_rfl)) ?_; unfold Tryz.f14; simp only [Option.get!_some]
    repeat (first | (simp only [go_sem, Nat.reduceEqDiff, Nat.reduceAdd, Nat.reduceSub, Nat.reduceMul, Nat.reduceLeDiff, Nat.reduceLT, reduceIte, reduceCtorEq, Nat.succ_ne_zero, elemsC, Int.reduceToNat, Nat.reducePow]) | (simp (disch := (first | omega | (simp only [AL, List.length_map]; omega))) only [AR, AL, ifT, ifF, take_all, List.length_cons, List.length_nil, Int.reduceToNat, Int.reducePow, Nat.reducePow]) | (refine wk_intro (by kernel_rfl) ?_) | (refine vp_draw (id := 3) (l := []) (by kernel_rfl) ?_) | (refine vp_draw (id := 5) (l := []) (by kernel_rfl) ?_) | (refine vp_draw (id := 6) (l := []) (by kernel_rfl) ?_) | (refine vp_draw (id := 8) (l := []) (by kernel_rfl) ?_))
set_option maxHeartbeats 2000000 in
theorem signs_walk {two q0 q1 q2 : Rat} {a b c d e f c' d' : Rat} {okN : Bool} {P : Nat} (h1 : nx.length ≤ 2) (h2 : dx.length ≤ 2) (h3 : nm.length ≤ 1) (h4 : dm.length ≤ 1) (hn : 1 ≤ n ∧ n ≤ 16) (hP : P ≤ 50)
    (i2 : Go.Ev.Fn CX 23 [.int .i64 2] (rv two)) (ad : Go.Ev.Fn CX 33 [ratV sm nm dm, ratV sx nx dx] (rv q0)) (sb : Go.Ev.Fn CX 52 [ratV sm nm dm, ratV sx nx dx] (rv q1)) (ng : Go.Ev.Fn CX 36 [ratV sx nx dx] (rv q2))
    (c1 : Go.Ev.Fn CX 49 [distV 1 0 0 sm nm dm (decide (two.num < 0)) (lim two.num.natAbs) (lim two.den), rv q0, .int .i64 (P : Int)] (cdfV okN a b))
    (c2 : Go.Ev.Fn CX 51 [distV 1 0 0 sm nm dm (decide (two.num < 0)) (lim two.num.natAbs) (lim two.den), rv q1, .int .i64 (P : Int)] (cdfV okN c d))
    (c3 : Go.Ev.Fn CX 49 [distV 5 n 0 false [] [] false [] [], ratV sx nx dx, .int .i64 (P : Int)] (.tup [ballR e f, .int .i64 0]))
    (c4 : Go.Ev.Fn CX 51 [distV 5 n 0 false [] [] false [] [], rv q2, .int .i64 (P : Int)] (.tup [ballR c' d', .int .i64 0]))
    (s1 : okN = true → Go.Ev.Fn CX 19 [ballR a b, ballR c d] (.int .i64 0)) (s2 : Go.Ev.Fn CX 19 [ballR e f, ballR c' d'] (.int .i64 0)) (kn : Go.Ev.Fn CX 50 [] (.bool true)) :
    Go.Ev.Fn CX 14 [.int .i64 n, ratV sx nx dx, ratV sm nm dm, .int .i64 (P : Int)] (.bool true) := by
  cases okN with
  | true =>
    have c1' : Go.Ev.Fn CX 49 [distV 1 0 0 sm nm dm (decide (two.num < 0)) (lim two.num.natAbs) (lim two.den), rv q0, .int .i64 (P : Int)] (.tup [ballR a b, .int .i64 0]) := c1
    have c2' : Go.Ev.Fn CX 51 [distV 1 0 0 sm nm dm (decide (two.num < 0)) (lim two.num.natAbs) (lim two.den), rv q1, .int .i64 (P : Int)] (.tup [ballR c d, .int .i64 0]) := c2
    have s1' := s1 rfl
    clear c1 c2 s1
    refine Go.Ev.Fn.intro (fn := Tryz.f14) (body := (Tryz.f14).body.get!) (by kernel_rfl) (by kernel_rfl) (by kernel_rfl) (fun _ => rfl) (Nat.le_of_ble_eq_true (by kernel_rfl)) ?_; unfold Tryz.f14; simp only [Option.get!_some]
    repeat (first | (simp only [go_sem, Nat.reduceEqDiff, Nat.reduceAdd, Nat.reduceSub, Nat.reduceMul, Nat.reduceLeDiff, Nat.reduceLT, reduceIte, reduceCtorEq, Nat.succ_ne_zero, elemsC, Int.reduceToNat, Nat.reducePow]) | (simp (disch := (first | omega | (simp only [AL, List.length_map]; omega))) only [AR, AL, ifT, ifF, take_all, List.length_cons, List.length_nil, Int.reduceToNat, Int.reducePow, Nat.reducePow]) | (refine wk_intro (by kernel_rfl) ?_) | (refine vp_draw (id := 3) (l := []) (by kernel_rfl) ?_) | (refine vp_draw (id := 5) (l := []) (by kernel_rfl) ?_) | (refine vp_draw (id := 6) (l := []) (by kernel_rfl) ?_) | (refine vp_draw (id := 8) (l := []) (by kernel_rfl) ?_) | (refine vf_of (by first | exact i2 | exact ad | exact c1' | exact sb | exact c2' | exact c3 | exact ng | exact c4 | exact s1' | exact s2 | exact kn) ?_))
  | false =>
    have c1' : Go.Ev.Fn CX 49 [distV 1 0 0 sm nm dm (decide (two.num < 0)) (lim two.num.natAbs) (lim two.den), rv q0, .int .i64 (P : Int)] (.tup [noB, .int .i64 7]) := c1
    have c2' : Go.Ev.Fn CX 51 [distV 1 0 0 sm nm dm (decide (two.num < 0)) (lim two.num.natAbs) (lim two.den), rv q1, .int .i64 (P : Int)] (.tup [noB, .int .i64 7]) := c2
    clear c1 c2 s1
    refine Go.Ev.Fn.intro (fn := Tryz.f14) (body := (Tryz.f14).body.get!) (by kernel_rfl) (by kernel_rfl) (by kernel_rfl) (fun _ => rfl) (Nat.le_of_ble_eq_true (by kernel_rfl)) ?_; unfold Tryz.f14; simp only [Option.get!_some]
    repeat (first | (simp only [go_sem, Nat.reduceEqDiff, Nat.reduceAdd, Nat.reduceSub, Nat.reduceMul, Nat.reduceLeDiff, Nat.reduceLT, reduceIte, reduceCtorEq, Nat.succ_ne_zero, elemsC, Int.reduceToNat, Nat.reducePow]) | (simp (disch := (first | omega | (simp only [AL, List.length_map]; omega))) only [AR, AL, ifT, ifF, take_all, List.length_cons, List.length_nil, Int.reduceToNat, Int.reducePow, Nat.reducePow]) | (refine wk_intro (by kernel_rfl) ?_) | (refine vp_draw (id := 3) (l := []) (by kernel_rfl) ?_) | (refine vp_draw (id := 5) (l := []) (by kernel_rfl) ?_) | (refine vp_draw (id := 6) (l := []) (by kernel_rfl) ?_) | (refine vp_draw (id := 8) (l := []) (by kernel_rfl) ?_) | (refine vf_of (by first | exact i2 | exact ad | exact c1' | exact sb | exact c2' | exact c3 | exact ng | exact c4 | exact s2 | exact kn) ?_))
theorem signs_in {P : Nat} (hx : RatA (ratV sx nx dx) x 2) (hM : RatA (ratV sm nm dm) mean 1) (h1 : nx.length ≤ 2) (h2 : dx.length ≤ 2) (h3 : nm.length ≤ 1) (h4 : dm.length ≤ 1) (hn : 1 ≤ n ∧ n ≤ 16) (hP : P ≤ 50) :
    Go.Ev.Fn CX 14 [.int .i64 n, ratV sx nx dx, ratV sm nm dm, .int .i64 (P : Int)] (.bool true) := by
  have i2 := ref2_Int 2 (by omega)
  have zx := szR_of hx (by omega)
  have zm := szR_of hM (by omega)
  have z2 := int_szR (n := 2) (by omega)
  have ad := ref2_Add hM hx (by omega) (by omega) (by omega)
  have sb := ref2_Sub hM hx (by omega) (by omega) (by omega)
  have ng := ref2_Neg hx (by omega) (by omega)
  have za := szR_add zm zx (by omega)
  have zs := szR_sub zm zx (by omega)
  have o2 : (0 : Rat) < ((2 : Int) : Rat) := by decide +kernel
  have z2' : szR ((2 : Int) : Rat) 1 := ⟨lim_len_lt (by decide +kernel), lim_len_lt (by decide +kernel)⟩
  have zq : szR (x / ((2 : Int) : Rat)) 3 := szR_div zx z2' (by omega) (by omega)
  obtain ⟨a, b, c, d, ok, f1, f2, w1, w2, w3, w4, w5⟩ := phi_pair (P := P) zq (by omega)
  have c1 := distE_Cdf (k := 1) (n := 0) (m := 0) (RatA_mono hM (show 1 ≤ 2 by omega)) (RatA_mono (RatA_rv z2) (show _ ≤ 2 by omega)) (by omega) (by omega) (chk_normal o2) (RatA_rv za) (P := P) (by omega) (chance_normal (RatA_mono hM (show 1 ≤ 2 by omega)) (RatA_mono (RatA_rv z2) (show _ ≤ 2 by omega)) (by omega) (by omega) (RatA_rv za) (by omega) (by omega) (by
    have e : mean + x - mean = x := by grind
    rw [e]; exact f1))
  have c2 := distE_Above (k := 1) (n := 0) (m := 0) (RatA_rv zs) w3 w4 (distE_Cdf (k := 1) (n := 0) (m := 0) (RatA_mono hM (show 1 ≤ 2 by omega)) (RatA_mono (RatA_rv z2) (show _ ≤ 2 by omega)) (by omega) (by omega) (chk_normal o2) (RatA_rv zs) (P := P) (by omega) (chance_normal (RatA_mono hM (show 1 ≤ 2 by omega)) (RatA_mono (RatA_rv z2) (show _ ≤ 2 by omega)) (by omega) (by omega) (RatA_rv zs) (by omega) (by omega) (by
    have e : (mean - x - mean) / ((2 : Int) : Rat) = -(x / ((2 : Int) : Rat)) := by
      rw [Rat.div_def, Rat.div_def]
      generalize ((2 : Int) : Rat)⁻¹ = u
      grind
    rw [e]; exact f2)))
  obtain ⟨e, f, c', d', g1, g2, y1, y2, y3, y4, y5, y6⟩ := stud_pair (P := P) hn zx (by omega)
  have c3 := g1 _ hx
  have c4 := distE_Above (k := 5) (m := 0) (RatA_rv (szR_neg zx)) y3 y4 (g2 _ (RatA_rv (szR_neg zx)))
  have s1 : ok = true → Go.Ev.Fn CX 19 [ballR a b, ballR (1 - d) (1 - c)] (.int .i64 0) := fun t =>
    ref4_Side0 w1 w2 (szR_mono (szR_sub unit_len w4 (by omega)) (show _ ≤ 600 by omega)) (szR_mono (szR_sub unit_len w3 (by omega)) (show _ ≤ 600 by omega)) (by omega) (by omega) (by omega) (w5 t).1 (w5 t).2
  have s2 := ref4_Side0 y1 y2 (szR_mono (szR_sub unit_len y4 (by omega)) (show _ ≤ 600 by omega)) (szR_mono (szR_sub unit_len y3 (by omega)) (show _ ≤ 600 by omega)) (by omega) (by omega) (by omega) y5 y6
  exact signs_walk h1 h2 h3 h4 hn hP i2 ad sb ng c1 c2 c3 c4 s1 s2 knownE14
end
set_option maxRecDepth 100000 in
theorem signs_law (n : Int) (w0 : (Lit.int .i64 n).wf = true) (ss1 : List SV) (sh1 : ShpT Tryz.prog 6 24 ss1) (ss2 : List SV) (sh2 : ShpT Tryz.prog 6 24 ss2) (p : Int) (w3 : (Lit.int .i64 p).wf = true) :
    Go.Ev.Fn CX 14 [.int .i64 n, .agg ss1, .agg ss2, .int .i64 p] (.bool true) := by
  obtain ⟨sx, nx, dx, rfl, a1, a2, l1, l2⟩ := shp_rat (n := 3) sh1
  obtain ⟨sm, nm, dm, rfl, a3, a4, l3, l4⟩ := shp_rat (n := 3) sh2
  have r0 := wf_int64G w0
  have r3 := wf_int64G w3
  have mx : maxLen ≤ 9223372036854775807 := by decide
  by_cases c : nx.length ≤ 2 ∧ dx.length ≤ 2 ∧ nm.length ≤ 1 ∧ dm.length ≤ 1 ∧ 0 ≤ p ∧ p ≤ 50 ∧ 1 ≤ n ∧ n ≤ 16
  · obtain ⟨c1, c2, c3, c4, c5, c6, c7, c8⟩ := c
    obtain ⟨x, hx⟩ : ∃ x : Rat, RatA (ratV sx nx dx) x 2 := ⟨_, sx, nx, dx, rfl, a1, a2, c1, c2, rfl⟩
    obtain ⟨m, hm⟩ : ∃ x : Rat, RatA (ratV sm nm dm) x 1 := ⟨_, sm, nm, dm, rfl, a3, a4, c3, c4, rfl⟩
    obtain ⟨P, rfl⟩ : ∃ P : Nat, p = (P : Int) := ⟨p.toNat, by omega⟩
    exact signs_in hx hm c1 c2 c3 c4 ⟨c7, c8⟩ (by omega)
  · exact signs_out r0 (Nat.le_trans l1 mx) (Nat.le_trans l2 mx) (Nat.le_trans l3 mx) (Nat.le_trans l4 mx) r3 (by omega)
end Go.Proofs.YtemnjalaincijaaGreat
