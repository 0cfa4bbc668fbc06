/- Part 11 of the proof: the evaluator, contracts of functions and their plain laws (joined by program). No condition. -/
import Derived.Test.YtodiciendlhkgaaGreatPart10
/- dist: one, student, chance, Cdf, Above of Student's and Fisher's distributions, in the evaluator. -/
namespace Go.Proofs.YtodiciendlhkgaaGreat
set_option linter.unusedSimpArgs false
set_option linter.unusedVariables false
set_option maxRecDepth 8000
open Go.Ev
set_option linter.unusedVariables false
theorem hfQ_len : szR (1 / 2) 1 := ⟨lim_len_lt (by decide +kernel), lim_len_lt (by decide +kernel)⟩
theorem one_len : szR 1 1 := ⟨lim_len_lt (by decide +kernel), lim_len_lt (by decide +kernel)⟩
/-- Both turned round are all: two balls. -/
theorem incb_pair {y : Rat} {a b p L : Nat} (hz : szR y L) (hL1 : 1 ≤ L) (hL : L ≤ 190) (ha : 1 ≤ a) (ha2 : a ≤ 20) (hb : 1 ≤ b) (hb2 : b ≤ 20) (hp : p ≤ 60) (h0 : 0 < y) (h1 : y < 1) :
    ∃ l h l' h' : Rat, Go.Ev.Fn CX 41 [.int .i64 (a : Int), .int .i64 (b : Int), rv y, .int .i64 (p : Int)] (.tup [ballR l h, .bool true]) ∧ Go.Ev.Fn CX 41 [.int .i64 (b : Int), .int .i64 (a : Int), rv (1 - y), .int .i64 (p : Int)] (.tup [ballR l' h', .bool true]) ∧
      szR l 200 ∧ szR h 200 ∧ szR l' 200 ∧ szR h' 200 ∧ l ≤ h ∧ l + l' ≤ 1 ∧ 1 ≤ h + h' := by
  have zy := szR_sub one_len hz (by omega)
  have key : ∀ A B A' B' : Nat, (lim A).length ≤ 100 → (lim B).length ≤ 100 → (lim A').length ≤ 100 → (lim B').length ≤ 100 → szR (toldLo A p) 200 ∧ szR (toldHi B p) 200 ∧ szR (1 - toldHi B' p) 200 ∧ szR (1 - toldLo A' p) 200 := by
    intro A B A' B' g1 g2 g3 g4
    obtain ⟨z1, z2⟩ := told_sz (p := p) (by omega) g1 g2
    obtain ⟨z3, z4⟩ := told_sz (p := p) (by omega) g3 g4
    exact ⟨szR_mono z1 (by omega), szR_mono z2 (by omega), szR_mono (szR_sub one_len z4 (by omega)) (by omega), szR_mono (szR_sub one_len z3 (by omega)) (by omega)⟩
  by_cases e : y = 1 / 2
  · subst e
    have e2 : (1 : Rat) - 1 / 2 = 1 / 2 := by decide +kernel
    obtain ⟨A, B, A', B', f, f', g0, g1, g2, g3, g4, t1, t2⟩ := half_pair (p := p) ha ha2 hb hb2 hp
    have i1 := incb_I_lo (RatA_rv hz) hL1 (by omega) ha ha2 hb hb2 (by omega) h0 (by decide +kernel) f ⟨g1, g2⟩
    have i2 := incb_I_lo (v := rv (1 / 2)) (RatA_rv hz) hL1 (by omega) hb hb2 ha ha2 (by omega) h0 (by decide +kernel) f' ⟨g3, g4⟩
    obtain ⟨z1, z2, -, -⟩ := key A B A' B' g1 g2 g3 g4
    obtain ⟨z3, z4, -, -⟩ := key A' B' A B g3 g4 g1 g2
    exact ⟨_, _, _, _, i1, by rw [e2]; exact i2, z1, z2, z3, z4, told_le g0, t1, t2⟩
  · have hh : (1 / 2 : Rat) * 2 = 1 := by decide +kernel
    by_cases hy : y + y ≤ 1
    · have hy2 : y + y < 1 := by
        rcases Rat.le_total (a := 1) (b := y + y) with g | g
        · exact absurd (show y = 1 / 2 by generalize (1 / 2 : Rat) = q at *; grind) e
        · generalize (1 / 2 : Rat) = q at *; grind
      obtain ⟨A, B, f, g0, g1, g2⟩ := row_told (a := a) (b := b) (p := p) hz hL1 (by omega) ha ha2 hb hb2 hp (Rat.le_of_lt h0) hy
      have i1 := incb_I_lo (RatA_rv hz) hL1 (by omega) ha ha2 hb hb2 (by omega) h0 hy f ⟨g1, g2⟩
      have e3 : 1 - (1 - y) = y := by grind
      have i2 := incb_I_hi (a := b) (b := a) (p := p) (x := 1 - y) (RatA_rv zy) (by omega) (by omega) hb hb2 ha ha2 (by omega) (by grind) (by grind) (by rw [e3]; exact f) ⟨g1, g2⟩
      obtain ⟨z1, z2, z3, z4⟩ := key A B A B g1 g2 g1 g2
      have le := told_le (p := p) g0
      exact ⟨_, _, _, _, i1, i2, z1, z2, z3, z4, le, by grind, by grind⟩
    · have hy' : 1 < y + y := by grind
      obtain ⟨A, B, f, g0, g1, g2⟩ := row_told (a := b) (b := a) (p := p) zy (by omega) (by omega) hb hb2 ha ha2 hp (show 0 ≤ 1 - y by grind) (by grind)
      have i1 := incb_I_hi (a := a) (b := b) (p := p) (RatA_rv hz) hL1 (by omega) ha ha2 hb hb2 (by omega) hy' h1 f ⟨g1, g2⟩
      have i2 := incb_I_lo (a := b) (b := a) (p := p) (RatA_rv zy) (by omega) (by omega) hb hb2 ha ha2 (by omega) (by grind) (by grind) f ⟨g1, g2⟩
      obtain ⟨z1, z2, z3, z4⟩ := key A B A B g1 g2 g1 g2
      have le := told_le (p := p) g0
      exact ⟨_, _, _, _, i1, i2, z3, z4, z1, z2, by grind, by grind, by grind⟩
theorem lo_half {l h : Rat} (g : l ≤ h) : loL (l * (1 / 2)) [l * (1 / 2), h * (1 / 2), h * (1 / 2)] = l * (1 / 2) ∧ hiL (l * (1 / 2)) [l * (1 / 2), h * (1 / 2), h * (1 / 2)] = h * (1 / 2) := by
  have g2 := Rat.mul_le_mul_of_nonneg_right g (show (0 : Rat) ≤ 1 / 2 by decide +kernel)
  generalize l * (1 / 2) = u at *
  generalize h * (1 / 2) = v at *
  constructor
  · simp only [loL, List.foldl_cons, List.foldl_nil, mnR]
    repeat (first | rw [if_neg (by grind)] | rfl)
  · simp only [hiL, List.foldl_cons, List.foldl_nil, mxR]
    rw [if_neg (show ¬ u < u by grind)]
    by_cases e : u < v
    · rw [if_pos e, if_neg (show ¬ v < v by grind)]
    · rw [if_neg e, if_neg e]; grind
theorem dist_one : Go.Ev.Fn CX 32 [] (ballR 1 1) := by
  have i1 := rat_Int 1 (by omega)
  have o := ball_Of (RatA_rv (int_szR (n := 1) (by omega))) (by omega)
  rw [show ((1 : Int) : Rat) = 1 from rfl] at i1 o
  refine Go.Ev.Fn.intro (fn := Tryz.f32) (body := (Tryz.f32).body.get!) (by kernel_rfl) (by kernel_rfl) (by kernel_rfl) (fun _ => rfl) (Nat.le_of_ble_eq_true (by kernel_rfl)) ?_; unfold Tryz.f32; simp only [Option.get!_some]
  repeat (first | (simp only [go_sem, Nat.reduceEqDiff, Nat.reduceAdd, Nat.reduceSub, Nat.reduceMul, Nat.reduceLeDiff, Nat.reduceLT, reduceIte, reduceCtorEq, Nat.succ_ne_zero, elemsC, Int.reduceToNat, Nat.reducePow]) | (simp (disch := (first | omega | (simp only [AL, List.length_map]; omega))) only [AR, AL, ifT, ifF, take_all, List.length_cons, List.length_nil, Int.reduceToNat, Int.reducePow, Nat.reducePow]) | (refine wk_intro (by kernel_rfl) ?_) | (refine vf_of (by first | exact i1 | exact o) ?_))
section
variable {n m p : Int} {x l h : Rat} {v : SV} {L : Nat}
/-- Where Student's chance is looked up. -/
def stuY (n : Int) (x : Rat) : Rat := (n : Rat) / ((n : Rat) + x * x)
theorem stuY_sz (hn : 1 ≤ n ∧ n ≤ 256) (hx : szR x L) (hL1 : 1 ≤ L) : szR (stuY n x) (2 * L + 8) := by
  have i := int_szR (n := n) (by omega)
  exact szR_mono (szR_div i (szR_add i (szR_mul hx hx hL1) (by omega)) (by omega) (by omega)) (by omega)
/-- Student's chance, of a number below 0 and of one that is not. -/
def stuB (x l h : Rat) : Rat × Rat := if x < 0 then (l * (1 / 2), h * (1 / 2)) else (1 - h * (1 / 2), 1 - l * (1 / 2))
theorem dist_student (hn : 1 ≤ n ∧ n ≤ 256) (hx : RatA v x L) (hL1 : 1 ≤ L) (hL : L ≤ 80) (f : Go.Ev.Fn CX 41 [.int .i64 n, .int .i64 1, rv (stuY n x), .int .i64 p] (.tup [ballR l h, .bool true])) (z1 : szR l 200) (z2 : szR h 200) (g : l ≤ h) :
    Go.Ev.Fn CX 51 [.int .i64 n, v, .int .i64 p] (.tup [ballR (stuB x l h).1 (stuB x l h).2, .bool true]) := by
  have zx := szR_of hx hL1
  have i := int_szR (n := n) (by omega)
  have rn := rat_Int n (by omega)
  have mu := rat_Mul hx hx hL1 hL1 (by omega)
  have ad := rat_Add (RatA_rv i) (RatA_rv (szR_mul zx zx hL1)) (by omega) (by omega) (by omega)
  have ov := dist_over (RatA_rv i) (RatA_rv (szR_add i (szR_mul zx zx hL1) (by omega))) (by omega) (by omega) (by omega)
  have pt := dist_part 1 2 (by omega) (by omega)
  rw [show ((1 : Int) : Rat) / ((2 : Int) : Rat) = 1 / 2 from rfl] at pt
  have o := ball_Of (RatA_rv hfQ_len) (by omega)
  have bm := ball_Mul (L := 200) z1 z2 (szR_mono hfQ_len (by omega)) (szR_mono hfQ_len (by omega)) (by omega) (by omega)
  rw [(lo_half g).1, (lo_half g).2] at bm
  have bl := dist_below hx hL1 (by omega) 0 (by omega)
  rw [show ((0 : Int) : Rat) = 0 from rfl] at bl
  have d1 := dist_one
  have bs := ball_Sub (a := 1) (b := 1) (L := 300) (szR_mono one_len (by omega)) (szR_mono one_len (by omega)) (szR_mono (szR_mul z1 hfQ_len (by omega)) (by omega)) (szR_mono (szR_mul z2 hfQ_len (by omega)) (by omega)) (by omega) (by omega)
  unfold stuB
  unfold stuY at f
  clear g z1 z2 zx i
  obtain ⟨s, nn, dd, rfl, -⟩ := hx
  generalize (n : Rat) / ((n : Rat) + x * x) = y at *
  generalize (n : Rat) + x * x = y2 at *
  generalize x * x = y3 at *
  generalize l * (1 / 2) = l2 at *
  generalize h * (1 / 2) = h2 at *
  generalize (1 / 2 : Rat) = hf at *
  by_cases hx0 : x < 0
  · rw [decide_eq_true hx0] at bl
    rw [if_pos hx0]
    refine Go.Ev.Fn.intro (fn := Tryz.f51) (body := (Tryz.f51).body.get!) (by kernel_rfl) (by kernel_rfl) (by kernel_rfl) (fun _ => rfl) (Nat.le_of_ble_eq_true (by kernel_rfl)) ?_; unfold Tryz.f51; simp only [Option.get!_some]
    repeat (first | (simp only [go_sem, Nat.reduceEqDiff, Nat.reduceAdd, Nat.reduceSub, Nat.reduceMul, Nat.reduceLeDiff, Nat.reduceLT, reduceIte, reduceCtorEq, Nat.succ_ne_zero, elemsC, Int.reduceToNat, Nat.reducePow, Bool.not_true]) | (simp (disch := (first | omega | (simp only [AL, List.length_map]; omega))) only [AR, AL, ifT, ifF, take_all, List.length_cons, List.length_nil, Int.reduceToNat, Int.reducePow, Nat.reducePow, Bool.not_true]) | (refine wk_intro (by kernel_rfl) ?_) | (refine vp_draw (id := 2) (l := []) (by kernel_rfl) ?_) | (refine vp_draw (id := 3) (l := []) (by kernel_rfl) ?_) | (refine vp_draw (id := 5) (l := []) (by kernel_rfl) ?_) | (refine vf_of (by first | exact rn | exact mu | exact ad | exact ov | exact f | exact pt | exact o | exact bm | exact bl) ?_))
  · rw [decide_eq_false hx0] at bl
    rw [if_neg hx0]
    generalize 1 - h2 = u1 at *
    generalize 1 - l2 = u2 at *
    refine Go.Ev.Fn.intro (fn := Tryz.f51) (body := (Tryz.f51).body.get!) (by kernel_rfl) (by kernel_rfl) (by kernel_rfl) (fun _ => rfl) (Nat.le_of_ble_eq_true (by kernel_rfl)) ?_; unfold Tryz.f51; simp only [Option.get!_some]
    repeat (first | (simp only [go_sem, Nat.reduceEqDiff, Nat.reduceAdd, Nat.reduceSub, Nat.reduceMul, Nat.reduceLeDiff, Nat.reduceLT, reduceIte, reduceCtorEq, Nat.succ_ne_zero, elemsC, Int.reduceToNat, Nat.reducePow, Bool.not_false]) | (simp (disch := (first | omega | (simp only [AL, List.length_map]; omega))) only [AR, AL, ifT, ifF, take_all, List.length_cons, List.length_nil, Int.reduceToNat, Int.reducePow, Nat.reducePow, Bool.not_false]) | (refine wk_intro (by kernel_rfl) ?_) | (refine vp_draw (id := 2) (l := []) (by kernel_rfl) ?_) | (refine vp_draw (id := 3) (l := []) (by kernel_rfl) ?_) | (refine vp_draw (id := 5) (l := []) (by kernel_rfl) ?_) | (refine vf_of (by first | exact rn | exact mu | exact ad | exact ov | exact f | exact pt | exact o | exact bm | exact bl | exact d1 | exact bs) ?_))
theorem chance_student {sa sb : Bool} {na da nb db : List Nat} {m : Int} {r : SV} (hx : RatA v x L) (f : Go.Ev.Fn CX 51 [.int .i64 n, v, .int .i64 p] r) (hr : ∃ a b : Rat, r = .tup [ballR a b, .bool true]) :
    Go.Ev.Fn CX 24 [distV 5 n m sa na da sb nb db, v, .int .i64 p] r := by
  obtain ⟨s, nn, dd, rfl, -⟩ := hx
  obtain ⟨a, b, rfl⟩ := hr
  refine Go.Ev.Fn.intro (fn := Tryz.f24) (body := (Tryz.f24).body.get!) (by kernel_rfl) (by kernel_rfl) (by kernel_rfl) (fun _ => rfl) (Nat.le_of_ble_eq_true (by kernel_rfl)) ?_; unfold Tryz.f24; simp only [Option.get!_some]
  repeat (first | (simp only [go_sem, Nat.reduceEqDiff, Nat.reduceAdd, Nat.reduceSub, Nat.reduceMul, Nat.reduceLeDiff, Nat.reduceLT, reduceIte, reduceCtorEq, Nat.succ_ne_zero, elemsC, Int.reduceToNat, Nat.reducePow]) | (simp (disch := (first | omega | (simp only [AL, List.length_map]; omega))) only [AR, AL, ifT, ifF, take_all, List.length_cons, List.length_nil, Int.reduceToNat, Int.reducePow, Nat.reducePow]) | (refine wk_intro (by kernel_rfl) ?_) | (refine vp_draw (id := 3) (l := []) (by kernel_rfl) ?_) | (refine vp_draw (id := 11) (l := []) (by kernel_rfl) ?_) | (refine vp_draw (id := 13) (l := []) (by kernel_rfl) ?_) | (refine vp_draw (id := 15) (l := []) (by kernel_rfl) ?_) | (refine vp_draw (id := 17) (l := []) (by kernel_rfl) ?_) | (refine vp_draw (id := 18) (l := []) (by kernel_rfl) ?_) | (refine vp_draw (id := 24) (l := []) (by kernel_rfl) ?_) | (refine vp_draw (id := 26) (l := []) (by kernel_rfl) ?_) | (refine vf_of (by first | exact f) ?_))
/-- Where Fisher's chance is looked up. -/
def fisY (n m : Int) (x : Rat) : Rat := (n : Rat) * x / ((n : Rat) * x + (m : Rat))
theorem fisY_sz (hn : 1 ≤ n ∧ n ≤ 256) (hm : 1 ≤ m ∧ m ≤ 256) (hx : szR x L) (hL1 : 1 ≤ L) : szR (fisY n m x) (2 * L + 8) := by
  have i := int_szR (n := n) (by omega)
  have j := int_szR (n := m) (by omega)
  exact szR_mono (szR_div (szR_mul i hx (by omega)) (szR_add (szR_mul i hx (by omega)) j (by omega)) (by omega) (by omega)) (by omega)
theorem chance_fisher {sa sb : Bool} {na da nb db : List Nat} (hn : 1 ≤ n ∧ n ≤ 256) (hm : 1 ≤ m ∧ m ≤ 256) (hx : RatA v x L) (hL1 : 1 ≤ L) (hL : L ≤ 80) (hx0 : 0 < x) (f : Go.Ev.Fn CX 41 [.int .i64 n, .int .i64 m, rv (fisY n m x), .int .i64 p] (.tup [ballR l h, .bool true])) :
    Go.Ev.Fn CX 24 [distV 6 n m sa na da sb nb db, v, .int .i64 p] (.tup [ballR l h, .bool true]) := by
  have zx := szR_of hx hL1
  have i := int_szR (n := n) (by omega)
  have j := int_szR (n := m) (by omega)
  have rn := rat_Int n (by omega)
  have rm := rat_Int m (by omega)
  have mu := rat_Mul (RatA_rv i) hx (by omega) hL1 (by omega)
  have ad := rat_Add (RatA_rv (szR_mul i zx (by omega))) (RatA_rv j) (by omega) (by omega) (by omega)
  have ov := dist_over (RatA_rv (szR_mul i zx (by omega))) (RatA_rv (szR_add (szR_mul i zx (by omega)) j (by omega))) (by omega) (by omega) (by omega)
  have bl := dist_below hx hL1 (by omega) 0 (by omega)
  have ab := dist_above hx hL1 (by omega) 0 (by omega)
  rw [show ((0 : Int) : Rat) = 0 from rfl] at bl ab
  rw [decide_eq_false (by grind)] at bl
  rw [decide_eq_true hx0] at ab
  unfold fisY at f
  clear zx i j hx0
  obtain ⟨s, nn, dd, rfl, -⟩ := hx
  generalize (n : Rat) * x / ((n : Rat) * x + (m : Rat)) = y at *
  generalize (n : Rat) * x + (m : Rat) = y2 at *
  generalize (n : Rat) * x = y3 at *
  refine Go.Ev.Fn.intro (fn := Tryz.f24) (body := (Tryz.f24).body.get!) (by kernel_rfl) (by kernel_rfl) (by kernel_rfl) (fun _ => rfl) (Nat.le_of_ble_eq_true (by kernel_rfl)) ?_; unfold Tryz.f24; simp only [Option.get!_some]
  repeat (first | (simp only [go_sem, Nat.reduceEqDiff, Nat.reduceAdd, Nat.reduceSub, Nat.reduceMul, Nat.reduceLeDiff, Nat.reduceLT, reduceIte, reduceCtorEq, Nat.succ_ne_zero, elemsC, Int.reduceToNat, Nat.reducePow, Bool.not_true]) | (simp (disch := (first | omega | (simp only [AL, List.length_map]; omega))) only [AR, AL, ifT, ifF, take_all, List.length_cons, List.length_nil, Int.reduceToNat, Int.reducePow, Nat.reducePow, Bool.not_true]) | (refine wk_intro (by kernel_rfl) ?_) | (refine vp_draw (id := 3) (l := []) (by kernel_rfl) ?_) | (refine vp_draw (id := 11) (l := []) (by kernel_rfl) ?_) | (refine vp_draw (id := 13) (l := []) (by kernel_rfl) ?_) | (refine vp_draw (id := 15) (l := []) (by kernel_rfl) ?_) | (refine vp_draw (id := 17) (l := []) (by kernel_rfl) ?_) | (refine vp_draw (id := 18) (l := []) (by kernel_rfl) ?_) | (refine vp_draw (id := 24) (l := []) (by kernel_rfl) ?_) | (refine vp_draw (id := 26) (l := []) (by kernel_rfl) ?_) | (refine vf_of (by first | exact bl | exact ab | exact rn | exact mu | exact rm | exact ad | exact ov | exact f) ?_))
theorem dist_Cdf {k : Int} {sa sb : Bool} {na da nb db : List Nat} {a b : Rat} {M P : Nat} (hA : RatA (ratV sa na da) a M) (hB : RatA (ratV sb nb db) b M) (hM : 1 ≤ M) (hM2 : M ≤ 1000) (hc : chkD k n m a b = 0) (hx : RatA v x L) (hp : P ≤ 200)
    (f : Go.Ev.Fn CX 24 [distV k n m sa na da sb nb db, v, .int .i64 (P : Int)] (.tup [ballR l h, .bool true])) :
    Go.Ev.Fn CX 8 [distV k n m sa na da sb nb db, v, .int .i64 (P : Int)] (.tup [ballR l h, .int .i64 0]) := by
  have c := dist_Check (k := k) (n := n) (m := m) hA hB hM (by omega)
  rw [hc] at c
  have x1 : (if (0 : Int) > (P : Int) then (0 : Int) else (P : Int)) = (P : Int) := if_neg (by omega)
  have x2 : (if (200 : Int) < (P : Int) then (200 : Int) else (P : Int)) = (P : Int) := if_neg (by omega)
  clear hA hB
  obtain ⟨s, nn, dd, rfl, -⟩ := hx
  refine Go.Ev.Fn.intro (fn := Tryz.f8) (body := (Tryz.f8).body.get!) (by kernel_rfl) (by kernel_rfl) (by kernel_rfl) (fun _ => rfl) (Nat.le_of_ble_eq_true (by kernel_rfl)) ?_; unfold Tryz.f8; simp only [Option.get!_some]
  repeat (first | (simp only [go_sem, Nat.reduceEqDiff, Nat.reduceAdd, Nat.reduceSub, Nat.reduceMul, Nat.reduceLeDiff, Nat.reduceLT, reduceIte, reduceCtorEq, Nat.succ_ne_zero, elemsC, Int.reduceToNat, Nat.reducePow, x1, x2, Bool.not_true]) | (simp (disch := (first | omega | (simp only [AL, List.length_map]; omega))) only [AR, AL, ifT, ifF, take_all, List.length_cons, List.length_nil, Int.reduceToNat, Int.reducePow, Nat.reducePow, x1, x2, Bool.not_true]) | (refine wk_intro (by kernel_rfl) ?_) | (refine vf_of (by first | exact c | exact f) ?_))
theorem dist_Above {k : Int} {sa sb : Bool} {na da nb db : List Nat} (hx : RatA v x L) (z1 : szR l 200) (z2 : szR h 200)
    (f : Go.Ev.Fn CX 8 [distV k n m sa na da sb nb db, v, .int .i64 p] (.tup [ballR l h, .int .i64 0])) :
    Go.Ev.Fn CX 15 [distV k n m sa na da sb nb db, v, .int .i64 p] (.tup [ballR (1 - h) (1 - l), .int .i64 0]) := by
  have d1 := dist_one
  have bs := ball_Sub (a := 1) (b := 1) (L := 200) (szR_mono one_len (by omega)) (szR_mono one_len (by omega)) z1 z2 (by omega) (by omega)
  clear z1 z2
  obtain ⟨s, nn, dd, rfl, -⟩ := hx
  generalize 1 - h = u1 at *
  generalize 1 - l = u2 at *
  refine Go.Ev.Fn.intro (fn := Tryz.f15) (body := (Tryz.f15).body.get!) (by kernel_rfl) (by kernel_rfl) (by kernel_rfl) (fun _ => rfl) (Nat.le_of_ble_eq_true (by kernel_rfl)) ?_; unfold Tryz.f15; simp only [Option.get!_some]
  repeat (first | (simp only [go_sem, Nat.reduceEqDiff, Nat.reduceAdd, Nat.reduceSub, Nat.reduceMul, Nat.reduceLeDiff, Nat.reduceLT, reduceIte, reduceCtorEq, Nat.succ_ne_zero, elemsC, Int.reduceToNat, Nat.reducePow]) | (simp (disch := (first | omega | (simp only [AL, List.length_map]; omega))) only [AR, AL, ifT, ifF, take_all, List.length_cons, List.length_nil, Int.reduceToNat, Int.reducePow, Nat.reducePow]) | (refine wk_intro (by kernel_rfl) ?_) | (refine vp_draw (id := 4) (l := []) (by kernel_rfl) ?_) | (refine vf_of (by first | exact f | exact d1 | exact bs) ?_))
end
end Go.Proofs.YtodiciendlhkgaaGreat

/- vernierlaw14.DistParts, DistSquares, in the evaluator. -/
namespace Go.Proofs.YtodiciendlhkgaaGreat
set_option linter.unusedSimpArgs false
set_option linter.unusedVariables false
set_option maxRecDepth 8000
open Go.Ev
set_option linter.unusedVariables false
theorem known14 : Go.Ev.Fn CX 13 [] (.bool true) := says_fn (n := 80) (by kernel_rfl)
theorem nil_RatA : RatA (ratV false [] []) 0 1 := ⟨false, [], [], rfl, by simp [okL], by simp [okL], by simp, by simp, by decide +kernel⟩
theorem chk_fisher {n m : Int} (hn : 1 ≤ n ∧ n ≤ 256) (hm : 1 ≤ m ∧ m ≤ 256) : chkD 6 n m 0 0 = 0 := by
  unfold chkD
  rw [show inD 6 n m 0 0 = (decide (1 ≤ n) && decide (1 ≤ m)) from rfl, show gtD 6 n m 0 = (decide (256 < n) || decide (256 < m)) from rfl, decide_eq_true hn.1, decide_eq_true hm.1, decide_eq_false (show ¬ 256 < n by omega), decide_eq_false (show ¬ 256 < m by omega)]
  rfl
theorem chk_student {n : Int} (hn : 1 ≤ n ∧ n ≤ 256) : chkD 5 n 0 0 0 = 0 := by
  unfold chkD
  rw [show inD 5 n 0 0 0 = decide (1 ≤ n) from rfl, show gtD 5 n 0 0 = decide (256 < n) from rfl, decide_eq_true hn.1, decide_eq_false (show ¬ 256 < n by omega)]
  rfl
theorem pos_int {n : Int} (h : 1 ≤ n) : (0 : Rat) < (n : Rat) := Rat.intCast_pos.2 (by omega)
theorem div_01 {u w : Rat} (hu : 0 < u) (hw : 0 < w) : 0 < u / (u + w) ∧ u / (u + w) < 1 ∧ 1 - u / (u + w) = w / (w + u) := by
  have hs : 0 < u + w := by grind
  have hi := Rat.inv_pos.2 hs
  have e : (u + w) * (u + w)⁻¹ = 1 := Rat.mul_inv_cancel _ (by grind)
  rw [Rat.add_comm w u, Rat.div_def, Rat.div_def]
  have a := Rat.mul_pos hu hi
  have b := Rat.mul_pos hw hi
  generalize (u + w)⁻¹ = z at *
  refine ⟨a, by grind, by grind⟩
section
variable {x : Rat} {n m p : Int} {s : Bool} {nn dd : List Nat}
theorem parts_out (hn : -9223372036854775808 ≤ n ∧ n < 9223372036854775808) (hm : -9223372036854775808 ≤ m ∧ m < 9223372036854775808) (hp : -9223372036854775808 ≤ p ∧ p < 9223372036854775808) (hN : nn.length ≤ 9223372036854775807) (hD : dd.length ≤ 9223372036854775807)
    (h : n < 1 ∨ 14 < n ∨ m < 1 ∨ 14 < m ∨ 1 < nn.length ∨ 1 < dd.length ∨ p < 0 ∨ 50 < p) : Go.Ev.Fn CX 4 [.int .i64 n, .int .i64 m, ratV s nn dd, .int .i64 p] (.bool true) := by
  by_cases c1 : n < 1
  · refine Go.Ev.Fn.intro (fn := Tryz.f4) (body := (Tryz.f4).body.get!) (by kernel_rfl) (by kernel_rfl) (by kernel_rfl) (fun _ => rfl) (Nat.le_of_ble_eq_true (by kernel_rfl)) ?_; unfold Tryz.f4; simp only [Option.get!_some]
    repeat (first | (simp only [go_sem, Nat.reduceEqDiff, Nat.reduceAdd, Nat.reduceSub, Nat.reduceMul, Nat.reduceLeDiff, Nat.reduceLT, reduceIte, reduceCtorEq, Nat.succ_ne_zero, elemsC, Int.reduceToNat, Nat.reducePow]) | (simp (disch := (first | omega | (simp only [AL, List.length_map]; omega))) only [AR, AL, ifT, ifF, take_all, List.length_cons, List.length_nil, Int.reduceToNat, Int.reducePow, Nat.reducePow]) | (refine wk_intro (by kernel_rfl) ?_) | (refine vp_draw (id := 1) (l := []) (by kernel_rfl) ?_) | (refine vp_draw (id := 3) (l := []) (by kernel_rfl) ?_))
  by_cases c2 : 14 < n
  · refine Go.Ev.Fn.intro (fn := Tryz.f4) (body := (Tryz.f4).body.get!) (by kernel_rfl) (by kernel_rfl) (by kernel_rfl) (fun _ => rfl) (Nat.le_of_ble_eq_true (by kernel_rfl)) ?_; unfold Tryz.f4; simp only [Option.get!_some]
    repeat (first | (simp only [go_sem, Nat.reduceEqDiff, Nat.reduceAdd, Nat.reduceSub, Nat.reduceMul, Nat.reduceLeDiff, Nat.reduceLT, reduceIte, reduceCtorEq, Nat.succ_ne_zero, elemsC, Int.reduceToNat, Nat.reducePow]) | (simp (disch := (first | omega | (simp only [AL, List.length_map]; omega))) only [AR, AL, ifT, ifF, take_all, List.length_cons, List.length_nil, Int.reduceToNat, Int.reducePow, Nat.reducePow]) | (refine wk_intro (by kernel_rfl) ?_) | (refine vp_draw (id := 1) (l := []) (by kernel_rfl) ?_) | (refine vp_draw (id := 3) (l := []) (by kernel_rfl) ?_))
  by_cases c3 : m < 1
  · refine Go.Ev.Fn.intro (fn := Tryz.f4) (body := (Tryz.f4).body.get!) (by kernel_rfl) (by kernel_rfl) (by kernel_rfl) (fun _ => rfl) (Nat.le_of_ble_eq_true (by kernel_rfl)) ?_; unfold Tryz.f4; simp only [Option.get!_some]
    repeat (first | (simp only [go_sem, Nat.reduceEqDiff, Nat.reduceAdd, Nat.reduceSub, Nat.reduceMul, Nat.reduceLeDiff, Nat.reduceLT, reduceIte, reduceCtorEq, Nat.succ_ne_zero, elemsC, Int.reduceToNat, Nat.reducePow]) | (simp (disch := (first | omega | (simp only [AL, List.length_map]; omega))) only [AR, AL, ifT, ifF, take_all, List.length_cons, List.length_nil, Int.reduceToNat, Int.reducePow, Nat.reducePow]) | (refine wk_intro (by kernel_rfl) ?_) | (refine vp_draw (id := 1) (l := []) (by kernel_rfl) ?_) | (refine vp_draw (id := 3) (l := []) (by kernel_rfl) ?_))
  by_cases c4 : 14 < m
  · refine Go.Ev.Fn.intro (fn := Tryz.f4) (body := (Tryz.f4).body.get!) (by kernel_rfl) (by kernel_rfl) (by kernel_rfl) (fun _ => rfl) (Nat.le_of_ble_eq_true (by kernel_rfl)) ?_; unfold Tryz.f4; simp only [Option.get!_some]
    repeat (first | (simp only [go_sem, Nat.reduceEqDiff, Nat.reduceAdd, Nat.reduceSub, Nat.reduceMul, Nat.reduceLeDiff, Nat.reduceLT, reduceIte, reduceCtorEq, Nat.succ_ne_zero, elemsC, Int.reduceToNat, Nat.reducePow]) | (simp (disch := (first | omega | (simp only [AL, List.length_map]; omega))) only [AR, AL, ifT, ifF, take_all, List.length_cons, List.length_nil, Int.reduceToNat, Int.reducePow, Nat.reducePow]) | (refine wk_intro (by kernel_rfl) ?_) | (refine vp_draw (id := 1) (l := []) (by kernel_rfl) ?_) | (refine vp_draw (id := 3) (l := []) (by kernel_rfl) ?_))
  by_cases c5 : 1 < nn.length
  · refine Go.Ev.Fn.intro (fn := Tryz.f4) (body := (Tryz.f4).body.get!) (by kernel_rfl) (by kernel_rfl) (by kernel_rfl) (fun _ => rfl) (Nat.le_of_ble_eq_true (by kernel_rfl)) ?_; unfold Tryz.f4; simp only [Option.get!_some]
    repeat (first | (simp only [go_sem, Nat.reduceEqDiff, Nat.reduceAdd, Nat.reduceSub, Nat.reduceMul, Nat.reduceLeDiff, Nat.reduceLT, reduceIte, reduceCtorEq, Nat.succ_ne_zero, elemsC, Int.reduceToNat, Nat.reducePow]) | (simp (disch := (first | omega | (simp only [AL, List.length_map]; omega))) only [AR, AL, ifT, ifF, take_all, List.length_cons, List.length_nil, Int.reduceToNat, Int.reducePow, Nat.reducePow]) | (refine wk_intro (by kernel_rfl) ?_) | (refine vp_draw (id := 1) (l := []) (by kernel_rfl) ?_) | (refine vp_draw (id := 3) (l := []) (by kernel_rfl) ?_))
  by_cases c6 : 1 < dd.length
  · refine Go.Ev.Fn.intro (fn := Tryz.f4) (body := (Tryz.f4).body.get!) (by kernel_rfl) (by kernel_rfl) (by kernel_rfl) (fun _ => rfl) (Nat.le_of_ble_eq_true (by kernel_rfl)) ?_; unfold Tryz.f4; simp only [Option.get!_some]
    repeat (first | (simp only [go_sem, Nat.reduceEqDiff, Nat.reduceAdd, Nat.reduceSub, Nat.reduceMul, Nat.reduceLeDiff, Nat.reduceLT, reduceIte, reduceCtorEq, Nat.succ_ne_zero, elemsC, Int.reduceToNat, Nat.reducePow]) | (simp (disch := (first | omega | (simp only [AL, List.length_map]; omega))) only [AR, AL, ifT, ifF, take_all, List.length_cons, List.length_nil, Int.reduceToNat, Int.reducePow, Nat.reducePow]) | (refine wk_intro (by kernel_rfl) ?_) | (refine vp_draw (id := 1) (l := []) (by kernel_rfl) ?_) | (refine vp_draw (id := 3) (l := []) (by kernel_rfl) ?_))
  by_cases c7 : p < 0
  · refine Go.Ev.Fn.intro (fn := Tryz.f4) (body := (Tryz.f4).body.get!) (by kernel_rfl) (by kernel_rfl) (by kernel_rfl) (fun _ => rfl) (Nat.le_of_ble_eq_true (by kernel_rfl)) ?_; unfold Tryz.f4; simp only [Option.get!_some]
    repeat (first | (simp only [go_sem, Nat.reduceEqDiff, Nat.reduceAdd, Nat.reduceSub, Nat.reduceMul, Nat.reduceLeDiff, Nat.reduceLT, reduceIte, reduceCtorEq, Nat.succ_ne_zero, elemsC, Int.reduceToNat, Nat.reducePow]) | (simp (disch := (first | omega | (simp only [AL, List.length_map]; omega))) only [AR, AL, ifT, ifF, take_all, List.length_cons, List.length_nil, Int.reduceToNat, Int.reducePow, Nat.reducePow]) | (refine wk_intro (by kernel_rfl) ?_) | (refine vp_draw (id := 1) (l := []) (by kernel_rfl) ?_) | (refine vp_draw (id := 3) (l := []) (by kernel_rfl) ?_))
  · have c8 : 50 < p := by omega
    refine Go.Ev.Fn.intro (fn := Tryz.f4) (body := (Tryz.f4).body.get!) (by kernel_rfl) (by kernel_rfl) (by kernel_rfl) (fun _ => rfl) (Nat.le_of_ble_eq_true (by kernel_rfl)) ?_; unfold Tryz.f4; simp only [Option.get!_some]
    repeat (first | (simp only [go_sem, Nat.reduceEqDiff, Nat.reduceAdd, Nat.reduceSub, Nat.reduceMul, Nat.reduceLeDiff, Nat.reduceLT, reduceIte, reduceCtorEq, Nat.succ_ne_zero, elemsC, Int.reduceToNat, Nat.reducePow]) | (simp (disch := (first | omega | (simp only [AL, List.length_map]; omega))) only [AR, AL, ifT, ifF, take_all, List.length_cons, List.length_nil, Int.reduceToNat, Int.reducePow, Nat.reducePow]) | (refine wk_intro (by kernel_rfl) ?_) | (refine vp_draw (id := 1) (l := []) (by kernel_rfl) ?_) | (refine vp_draw (id := 3) (l := []) (by kernel_rfl) ?_))
theorem parts_low (hv : RatA (ratV s nn dd) x 1) (hN : nn.length ≤ 1) (hD : dd.length ≤ 1) (hn : 1 ≤ n ∧ n ≤ 14) (hm : 1 ≤ m ∧ m ≤ 14) (hp : 0 ≤ p ∧ p ≤ 50) (hx : x ≤ 0) :
    Go.Ev.Fn CX 4 [.int .i64 n, .int .i64 m, ratV s nn dd, .int .i64 p] (.bool true) := by
  have i0 := ref2_Int 0 (by omega)
  have cm := ref2_Cmp hv (RatA_rv (int_szR (n := 0) (by omega))) (by omega) (by omega) (by omega)
  rw [show ((0 : Int) : Rat) = 0 from rfl] at i0 cm
  have e1 : decide (cmpR x 0 ≤ 0) = true := by rw [cmpR_le]; exact decide_eq_true hx
  clear hv hx
  generalize cmpR x 0 = z at *
  refine Go.Ev.Fn.intro (fn := Tryz.f4) (body := (Tryz.f4).body.get!) (by kernel_rfl) (by kernel_rfl) (by kernel_rfl) (fun _ => rfl) (Nat.le_of_ble_eq_true (by kernel_rfl)) ?_; unfold Tryz.f4; simp only [Option.get!_some]
  repeat (first | (simp only [go_sem, Nat.reduceEqDiff, Nat.reduceAdd, Nat.reduceSub, Nat.reduceMul, Nat.reduceLeDiff, Nat.reduceLT, reduceIte, reduceCtorEq, Nat.succ_ne_zero, elemsC, Int.reduceToNat, Nat.reducePow, e1]) | (simp (disch := (first | omega | (simp only [AL, List.length_map]; omega))) only [AR, AL, ifT, ifF, take_all, List.length_cons, List.length_nil, Int.reduceToNat, Int.reducePow, Nat.reducePow, e1]) | (refine wk_intro (by kernel_rfl) ?_) | (refine vp_draw (id := 1) (l := []) (by kernel_rfl) ?_) | (refine vp_draw (id := 3) (l := []) (by kernel_rfl) ?_) | (refine vf_of (by first | exact i0 | exact cm) ?_))
/-- Fisher's chance, in a ball. -/
theorem fisher_Cdf {l h : Rat} {P L : Nat} {v : SV} (hv : RatA v x L) (hL1 : 1 ≤ L) (hL : L ≤ 80) (hn : 1 ≤ n ∧ n ≤ 256) (hm : 1 ≤ m ∧ m ≤ 256) (hx : 0 < x) (hp : P ≤ 200) (f : Go.Ev.Fn CX 41 [.int .i64 n, .int .i64 m, rv (fisY n m x), .int .i64 (P : Int)] (.tup [ballR l h, .bool true])) :
    Go.Ev.Fn CX 8 [distV 6 n m false [] [] false [] [], v, .int .i64 (P : Int)] (.tup [ballR l h, .int .i64 0]) :=
  dist_Cdf nil_RatA nil_RatA (by omega) (by omega) (chk_fisher hn hm) hv hp (chance_fisher hn hm hv hL1 hL hx f)
set_option maxHeartbeats 2000000 in
theorem parts_in {P : Nat} (hv : RatA (ratV s nn dd) x 1) (hN : nn.length ≤ 1) (hD : dd.length ≤ 1) (hn : 1 ≤ n ∧ n ≤ 14) (hm : 1 ≤ m ∧ m ≤ 14) (hp : P ≤ 50) (hx : 0 < x) :
    Go.Ev.Fn CX 4 [.int .i64 n, .int .i64 m, ratV s nn dd, .int .i64 (P : Int)] (.bool true) := by
  have i0 := ref2_Int 0 (by omega)
  have i1 := ref2_Int 1 (by omega)
  have cm := ref2_Cmp hv (RatA_rv (int_szR (n := 0) (by omega))) (by omega) (by omega) (by omega)
  have dv := ref2_Div (RatA_rv (int_szR (n := 1) (by omega))) hv (by omega) (by omega) (by omega)
  rw [show ((0 : Int) : Rat) = 0 from rfl] at i0 cm
  rw [show ((1 : Int) : Rat) = 1 from rfl] at i1 dv
  have e1 : decide (cmpR x 0 ≤ 0) = false := by rw [cmpR_le]; exact decide_eq_false (by grind)
  have zx := szR_of hv (by omega)
  have zq : szR (1 / x) 2 := szR_div one_len zx (by omega) (by omega)
  have hxi := Rat.inv_pos.2 hx
  have hq : 0 < 1 / x := by rw [Rat.div_def, Rat.one_mul]; exact hxi
  have np := pos_int hn.1
  have mp := pos_int hm.1
  obtain ⟨y0, y1, y2⟩ := div_01 (Rat.mul_pos np hx) mp
  have yq : 1 - fisY n m x = fisY m n (1 / x) := by
    unfold fisY
    rw [y2]
    have k1 : x * x⁻¹ = 1 := Rat.mul_inv_cancel _ (by grind)
    have s1 : (0 : Rat) < (m : Rat) + (n : Rat) * x := by have := Rat.mul_pos np hx; grind
    have s2 : (0 : Rat) < (m : Rat) * (1 / x) + (n : Rat) := by have := Rat.mul_pos mp hq; grind
    have t1 : ((m : Rat) + (n : Rat) * x) * ((m : Rat) + (n : Rat) * x)⁻¹ = 1 := Rat.mul_inv_cancel _ (by grind)
    have t2 : ((m : Rat) * (1 / x) + (n : Rat)) * ((m : Rat) * (1 / x) + (n : Rat))⁻¹ = 1 := Rat.mul_inv_cancel _ (by grind)
    rw [Rat.div_def, Rat.div_def (_ * _)]
    have r : (m : Rat) * (1 / x) + (n : Rat) = ((m : Rat) + (n : Rat) * x) * x⁻¹ := by rw [Rat.div_def]; grind
    rw [r] at t2 ⊢
    rw [Rat.div_def, Rat.one_mul]
    generalize ((m : Rat) + (n : Rat) * x) = A at *
    generalize (A * x⁻¹)⁻¹ = B at *
    generalize A⁻¹ = C at *
    generalize x⁻¹ = D at *
    have : D * B = C := by
      have : (A * C) * (D * B) = C * (A * D * B) := by grind
      rw [t1, t2] at this
      grind
    grind
  have zy : szR (fisY n m x) 10 := fisY_sz (by omega) (by omega) zx (by omega)
  obtain ⟨N, rfl⟩ : ∃ K : Nat, n = (K : Int) := ⟨n.toNat, by omega⟩
  obtain ⟨M, rfl⟩ : ∃ K : Nat, m = (K : Int) := ⟨m.toNat, by omega⟩
  obtain ⟨l, h, l', h', f1, f2, z1, z2, z3, z4, g0, g1, g2⟩ := incb_pair (a := N) (b := M) (p := P) zy (by omega) (by omega) (by omega) (by omega) (by omega) (by omega) (by omega) y0 y1
  rw [yq] at f2
  have c1 := fisher_Cdf hv (by omega) (by omega) (by omega) (by omega) hx (by omega) f1
  have c2 := dist_Above (RatA_rv zq) z3 z4 (fisher_Cdf (RatA_rv zq) (by omega) (by omega) (by omega) (by omega) hq (by omega) f2)
  have sd := ref4_Side0 z1 z2 (szR_mono (szR_sub one_len z4 (by omega)) (show _ ≤ 300 by omega)) (szR_mono (szR_sub one_len z3 (by omega)) (show _ ≤ 300 by omega)) (by omega) (by omega) (by omega) (show 1 - h' ≤ h by grind) (show l ≤ 1 - l' by grind)
  have kn := known14
  clear y0 y1 y2 yq zx zq zy hxi np mp f1 f2 z1 z2 z3 z4 g0 g1 g2 hq
  have dne : decide (x ≠ 0) = true := decide_eq_true (by grind)
  clear hv hx
  generalize cmpR x 0 = z at *
  generalize 1 - h' = u1 at *
  generalize 1 - l' = u2 at *
  generalize 1 / x = q at *
  refine Go.Ev.Fn.intro (fn := Tryz.f4) (body := (Tryz.f4).body.get!) (by kernel_rfl) (by kernel_rfl) (by kernel_rfl) (fun _ => rfl) (Nat.le_of_ble_eq_true (by kernel_rfl)) ?_; unfold Tryz.f4; simp only [Option.get!_some]
  repeat (first | (simp only [go_sem, Nat.reduceEqDiff, Nat.reduceAdd, Nat.reduceSub, Nat.reduceMul, Nat.reduceLeDiff, Nat.reduceLT, reduceIte, reduceCtorEq, Nat.succ_ne_zero, elemsC, Int.reduceToNat, Nat.reducePow, e1]) | (simp (disch := (first | omega | (simp only [AL, List.length_map]; omega))) only [AR, AL, ifT, ifF, take_all, List.length_cons, List.length_nil, Int.reduceToNat, Int.reducePow, Nat.reducePow, e1]) | (refine wk_intro (by kernel_rfl) ?_) | (refine vp_draw (id := 1) (l := []) (by kernel_rfl) ?_) | (refine vp_draw (id := 3) (l := []) (by kernel_rfl) ?_) | (refine vf_of (by first | exact i0 | exact cm | exact i1 | exact dv | exact c1 | exact c2 | exact sd | exact kn) ?_))
theorem squares_out (hn : -9223372036854775808 ≤ n ∧ n < 9223372036854775808) (hp : -9223372036854775808 ≤ p ∧ p < 9223372036854775808) (hN : nn.length ≤ 9223372036854775807) (hD : dd.length ≤ 9223372036854775807)
    (h : n < 1 ∨ 14 < n ∨ 1 < nn.length ∨ 1 < dd.length ∨ p < 0 ∨ 50 < p) : Go.Ev.Fn CX 3 [.int .i64 n, ratV s nn dd, .int .i64 p] (.bool true) := by
  by_cases c1 : n < 1
  · refine Go.Ev.Fn.intro (fn := Tryz.f3) (body := (Tryz.f3).body.get!) (by kernel_rfl) (by kernel_rfl) (by kernel_rfl) (fun _ => rfl) (Nat.le_of_ble_eq_true (by kernel_rfl)) ?_; unfold Tryz.f3; simp only [Option.get!_some]
    repeat (first | (simp only [go_sem, Nat.reduceEqDiff, Nat.reduceAdd, Nat.reduceSub, Nat.reduceMul, Nat.reduceLeDiff, Nat.reduceLT, reduceIte, reduceCtorEq, Nat.succ_ne_zero, elemsC, Int.reduceToNat, Nat.reducePow]) | (simp (disch := (first | omega | (simp only [AL, List.length_map]; omega))) only [AR, AL, ifT, ifF, take_all, List.length_cons, List.length_nil, Int.reduceToNat, Int.reducePow, Nat.reducePow]) | (refine wk_intro (by kernel_rfl) ?_) | (refine vp_draw (id := 1) (l := []) (by kernel_rfl) ?_) | (refine vp_draw (id := 6) (l := []) (by kernel_rfl) ?_))
  by_cases c2 : 14 < n
  · refine Go.Ev.Fn.intro (fn := Tryz.f3) (body := (Tryz.f3).body.get!) (by kernel_rfl) (by kernel_rfl) (by kernel_rfl) (fun _ => rfl) (Nat.le_of_ble_eq_true (by kernel_rfl)) ?_; unfold Tryz.f3; simp only [Option.get!_some]
    repeat (first | (simp only [go_sem, Nat.reduceEqDiff, Nat.reduceAdd, Nat.reduceSub, Nat.reduceMul, Nat.reduceLeDiff, Nat.reduceLT, reduceIte, reduceCtorEq, Nat.succ_ne_zero, elemsC, Int.reduceToNat, Nat.reducePow]) | (simp (disch := (first | omega | (simp only [AL, List.length_map]; omega))) only [AR, AL, ifT, ifF, take_all, List.length_cons, List.length_nil, Int.reduceToNat, Int.reducePow, Nat.reducePow]) | (refine wk_intro (by kernel_rfl) ?_) | (refine vp_draw (id := 1) (l := []) (by kernel_rfl) ?_) | (refine vp_draw (id := 6) (l := []) (by kernel_rfl) ?_))
  by_cases c5 : 1 < nn.length
  · refine Go.Ev.Fn.intro (fn := Tryz.f3) (body := (Tryz.f3).body.get!) (by kernel_rfl) (by kernel_rfl) (by kernel_rfl) (fun _ => rfl) (Nat.le_of_ble_eq_true (by kernel_rfl)) ?_; unfold Tryz.f3; simp only [Option.get!_some]
    repeat (first | (simp only [go_sem, Nat.reduceEqDiff, Nat.reduceAdd, Nat.reduceSub, Nat.reduceMul, Nat.reduceLeDiff, Nat.reduceLT, reduceIte, reduceCtorEq, Nat.succ_ne_zero, elemsC, Int.reduceToNat, Nat.reducePow]) | (simp (disch := (first | omega | (simp only [AL, List.length_map]; omega))) only [AR, AL, ifT, ifF, take_all, List.length_cons, List.length_nil, Int.reduceToNat, Int.reducePow, Nat.reducePow]) | (refine wk_intro (by kernel_rfl) ?_) | (refine vp_draw (id := 1) (l := []) (by kernel_rfl) ?_) | (refine vp_draw (id := 6) (l := []) (by kernel_rfl) ?_))
  by_cases c6 : 1 < dd.length
  · refine Go.Ev.Fn.intro (fn := Tryz.f3) (body := (Tryz.f3).body.get!) (by kernel_rfl) (by kernel_rfl) (by kernel_rfl) (fun _ => rfl) (Nat.le_of_ble_eq_true (by kernel_rfl)) ?_; unfold Tryz.f3; simp only [Option.get!_some]
    repeat (first | (simp only [go_sem, Nat.reduceEqDiff, Nat.reduceAdd, Nat.reduceSub, Nat.reduceMul, Nat.reduceLeDiff, Nat.reduceLT, reduceIte, reduceCtorEq, Nat.succ_ne_zero, elemsC, Int.reduceToNat, Nat.reducePow]) | (simp (disch := (first | omega | (simp only [AL, List.length_map]; omega))) only [AR, AL, ifT, ifF, take_all, List.length_cons, List.length_nil, Int.reduceToNat, Int.reducePow, Nat.reducePow]) | (refine wk_intro (by kernel_rfl) ?_) | (refine vp_draw (id := 1) (l := []) (by kernel_rfl) ?_) | (refine vp_draw (id := 6) (l := []) (by kernel_rfl) ?_))
  by_cases c7 : p < 0
  · refine Go.Ev.Fn.intro (fn := Tryz.f3) (body := (Tryz.f3).body.get!) (by kernel_rfl) (by kernel_rfl) (by kernel_rfl) (fun _ => rfl) (Nat.le_of_ble_eq_true (by kernel_rfl)) ?_; unfold Tryz.f3; simp only [Option.get!_some]
    repeat (first | (simp only [go_sem, Nat.reduceEqDiff, Nat.reduceAdd, Nat.reduceSub, Nat.reduceMul, Nat.reduceLeDiff, Nat.reduceLT, reduceIte, reduceCtorEq, Nat.succ_ne_zero, elemsC, Int.reduceToNat, Nat.reducePow]) | (simp (disch := (first | omega | (simp only [AL, List.length_map]; omega))) only [AR, AL, ifT, ifF, take_all, List.length_cons, List.length_nil, Int.reduceToNat, Int.reducePow, Nat.reducePow]) | (refine wk_intro (by kernel_rfl) ?_) | (refine vp_draw (id := 1) (l := []) (by kernel_rfl) ?_) | (refine vp_draw (id := 6) (l := []) (by kernel_rfl) ?_))
  · have c8 : 50 < p := by omega
    refine Go.Ev.Fn.intro (fn := Tryz.f3) (body := (Tryz.f3).body.get!) (by kernel_rfl) (by kernel_rfl) (by kernel_rfl) (fun _ => rfl) (Nat.le_of_ble_eq_true (by kernel_rfl)) ?_; unfold Tryz.f3; simp only [Option.get!_some]
    repeat (first | (simp only [go_sem, Nat.reduceEqDiff, Nat.reduceAdd, Nat.reduceSub, Nat.reduceMul, Nat.reduceLeDiff, Nat.reduceLT, reduceIte, reduceCtorEq, Nat.succ_ne_zero, elemsC, Int.reduceToNat, Nat.reducePow]) | (simp (disch := (first | omega | (simp only [AL, List.length_map]; omega))) only [AR, AL, ifT, ifF, take_all, List.length_cons, List.length_nil, Int.reduceToNat, Int.reducePow, Nat.reducePow]) | (refine wk_intro (by kernel_rfl) ?_) | (refine vp_draw (id := 1) (l := []) (by kernel_rfl) ?_) | (refine vp_draw (id := 6) (l := []) (by kernel_rfl) ?_))
theorem squares_low (hv : RatA (ratV s nn dd) x 1) (hN : nn.length ≤ 1) (hD : dd.length ≤ 1) (hn : 1 ≤ n ∧ n ≤ 14) (hp : 0 ≤ p ∧ p ≤ 50) (hx : x ≤ 0) :
    Go.Ev.Fn CX 3 [.int .i64 n, ratV s nn dd, .int .i64 p] (.bool true) := by
  have i0 := ref2_Int 0 (by omega)
  have cm := ref2_Cmp hv (RatA_rv (int_szR (n := 0) (by omega))) (by omega) (by omega) (by omega)
  rw [show ((0 : Int) : Rat) = 0 from rfl] at i0 cm
  have e1 : decide (cmpR x 0 ≤ 0) = true := by rw [cmpR_le]; exact decide_eq_true hx
  clear hv hx
  generalize cmpR x 0 = z at *
  refine Go.Ev.Fn.intro (fn := Tryz.f3) (body := (Tryz.f3).body.get!) (by kernel_rfl) (by kernel_rfl) (by kernel_rfl) (fun _ => rfl) (Nat.le_of_ble_eq_true (by kernel_rfl)) ?_; unfold Tryz.f3; simp only [Option.get!_some]
  repeat (first | (simp only [go_sem, Nat.reduceEqDiff, Nat.reduceAdd, Nat.reduceSub, Nat.reduceMul, Nat.reduceLeDiff, Nat.reduceLT, reduceIte, reduceCtorEq, Nat.succ_ne_zero, elemsC, Int.reduceToNat, Nat.reducePow, e1]) | (simp (disch := (first | omega | (simp only [AL, List.length_map]; omega))) only [AR, AL, ifT, ifF, take_all, List.length_cons, List.length_nil, Int.reduceToNat, Int.reducePow, Nat.reducePow, e1]) | (refine wk_intro (by kernel_rfl) ?_) | (refine vp_draw (id := 1) (l := []) (by kernel_rfl) ?_) | (refine vp_draw (id := 6) (l := []) (by kernel_rfl) ?_) | (refine vf_of (by first | exact i0 | exact cm) ?_))
theorem ref4_NegB {a b : Rat} {L : Nat} (ha : szR a L) (hb : szR b L) (hL1 : 1 ≤ L) (hL : L ≤ 100000) : Go.Ev.Fn CX 28 [ballR a b] (ballR (-b) (-a)) := by
  have n1 := ref2_Neg (RatA_rv ha) hL1 (by omega)
  have n2 := ref2_Neg (RatA_rv hb) hL1 (by omega)
  generalize -a = u at *
  generalize -b = w at *
  refine Go.Ev.Fn.intro (fn := Tryz.f28) (body := (Tryz.f28).body.get!) (by kernel_rfl) (by kernel_rfl) (by kernel_rfl) (fun _ => rfl) (Nat.le_of_ble_eq_true (by kernel_rfl)) ?_; unfold Tryz.f28; simp only [Option.get!_some]
  repeat (first | (simp only [go_sem, Nat.reduceEqDiff, Nat.reduceAdd, Nat.reduceSub, Nat.reduceMul, Nat.reduceLeDiff, Nat.reduceLT, reduceIte, reduceCtorEq, Nat.succ_ne_zero, elemsC, Int.reduceToNat, Nat.reducePow]) | (simp (disch := (first | omega | (simp only [AL, List.length_map]; omega))) only [AR, AL, ifT, ifF, take_all, List.length_cons, List.length_nil, Int.reduceToNat, Int.reducePow, Nat.reducePow]) | (refine wk_intro (by kernel_rfl) ?_) | (refine vp_draw (id := 1) (l := []) (by kernel_rfl) ?_) | (refine vf_of (by first | exact n2 | exact n1) ?_))
theorem ref4_AddC {a b c d : Rat} {L M : Nat} (ha : szR a L) (hb : szR b L) (hc : szR c M) (hd : szR d M) (hL1 : 1 ≤ L) (hM1 : 1 ≤ M) (hL : L + M ≤ 100000) : Go.Ev.Fn CX 27 [ballR a b, ballR c d] (ballR (a + c) (b + d)) := by
  have s1 := ref2_Add (RatA_rv ha) (RatA_rv hc) hL1 hM1 (by omega)
  have s2 := ref2_Add (RatA_rv hb) (RatA_rv hd) hL1 hM1 (by omega)
  generalize a + c = x at *
  generalize b + d = y at *
  refine Go.Ev.Fn.intro (fn := Tryz.f27) (body := (Tryz.f27).body.get!) (by kernel_rfl) (by kernel_rfl) (by kernel_rfl) (fun _ => rfl) (Nat.le_of_ble_eq_true (by kernel_rfl)) ?_; unfold Tryz.f27; simp only [Option.get!_some]
  repeat (first | (simp only [go_sem, Nat.reduceEqDiff, Nat.reduceAdd, Nat.reduceSub, Nat.reduceMul, Nat.reduceLeDiff, Nat.reduceLT, reduceIte, reduceCtorEq, Nat.succ_ne_zero, elemsC, Int.reduceToNat, Nat.reducePow]) | (simp (disch := (first | omega | (simp only [AL, List.length_map]; omega))) only [AR, AL, ifT, ifF, take_all, List.length_cons, List.length_nil, Int.reduceToNat, Int.reducePow, Nat.reducePow]) | (refine wk_intro (by kernel_rfl) ?_) | (refine vp_draw (id := 1) (l := []) (by kernel_rfl) ?_) | (refine vf_of (by first | exact s1 | exact s2) ?_))
theorem ref4_SubB {a b c d : Rat} {L M : Nat} (ha : szR a L) (hb : szR b L) (hc : szR c M) (hd : szR d M) (hL1 : 1 ≤ L) (hM1 : 1 ≤ M) (hL : L + M ≤ 100000) : Go.Ev.Fn CX 12 [ballR a b, ballR c d] (ballR (a - d) (b - c)) := by
  have s1 := ref4_NegB hc hd hM1 (by omega)
  have s2 := ref4_AddC ha hb (szR_neg hd) (szR_neg hc) hL1 hM1 hL
  rw [← Rat.sub_eq_add_neg, ← Rat.sub_eq_add_neg] at s2
  generalize a - d = x at *
  generalize b - c = y at *
  generalize -c = u at *
  generalize -d = w at *
  refine Go.Ev.Fn.intro (fn := Tryz.f12) (body := (Tryz.f12).body.get!) (by kernel_rfl) (by kernel_rfl) (by kernel_rfl) (fun _ => rfl) (Nat.le_of_ble_eq_true (by kernel_rfl)) ?_; unfold Tryz.f12; simp only [Option.get!_some]
  repeat (first | (simp only [go_sem, Nat.reduceEqDiff, Nat.reduceAdd, Nat.reduceSub, Nat.reduceMul, Nat.reduceLeDiff, Nat.reduceLT, reduceIte, reduceCtorEq, Nat.succ_ne_zero, elemsC, Int.reduceToNat, Nat.reducePow]) | (simp (disch := (first | omega | (simp only [AL, List.length_map]; omega))) only [AR, AL, ifT, ifF, take_all, List.length_cons, List.length_nil, Int.reduceToNat, Int.reducePow, Nat.reducePow]) | (refine wk_intro (by kernel_rfl) ?_) | (refine vp_draw (id := 1) (l := []) (by kernel_rfl) ?_) | (refine vf_of (by first | exact s1 | exact s2) ?_))
theorem two_halves (l : Rat) : 1 - l * (1 / 2) - l * (1 / 2) = 1 - l := by
  have hh : (1 / 2 : Rat) * 2 = 1 := by decide +kernel
  generalize (1 / 2 : Rat) = q at *
  have e : l * q + l * q = l * (q * 2) := by grind
  rw [hh] at e
  grind
theorem le_rest {l l' : Rat} (h : l + l' ≤ 1) : l' ≤ 1 - l := by grind
theorem rest_le {h h' : Rat} (g : 1 ≤ h + h') : 1 - h ≤ h' := by grind
set_option maxHeartbeats 2000000 in
theorem squares_in {P : Nat} (hv : RatA (ratV s nn dd) x 1) (hN : nn.length ≤ 1) (hD : dd.length ≤ 1) (hn : 1 ≤ n ∧ n ≤ 14) (hp : P ≤ 50) (hx : 0 < x) :
    Go.Ev.Fn CX 3 [.int .i64 n, ratV s nn dd, .int .i64 (P : Int)] (.bool true) := by
  have i0 := ref2_Int 0 (by omega)
  have cm := ref2_Cmp hv (RatA_rv (int_szR (n := 0) (by omega))) (by omega) (by omega) (by omega)
  have ng := ref2_Neg hv (by omega) (by omega)
  have mu := ref2_Mul hv hv (by omega) (by omega) (by omega)
  rw [show ((0 : Int) : Rat) = 0 from rfl] at i0 cm
  have e1 : decide (cmpR x 0 ≤ 0) = false := by rw [cmpR_le]; exact decide_eq_false (by grind)
  have zx := szR_of hv (by omega)
  have zq : szR (x * x) 2 := szR_mul zx zx (by omega)
  have hq : 0 < x * x := Rat.mul_pos hx hx
  have np := pos_int hn.1
  obtain ⟨y0, y1, y2⟩ := div_01 np hq
  have zy : szR (stuY n x) 10 := stuY_sz (by omega) zx (by omega)
  have zn := szR_neg zx
  have sq : -x * -x = x * x := by grind
  have yn : stuY n (-x) = stuY n x := by unfold stuY; rw [sq]
  have yf : 1 - stuY n x = fisY 1 n (x * x) := by
    unfold stuY fisY
    rw [y2, show ((1 : Int) : Rat) = 1 from rfl, Rat.one_mul]
  obtain ⟨N, rfl⟩ : ∃ K : Nat, n = (K : Int) := ⟨n.toNat, by omega⟩
  obtain ⟨l, h, l', h', f1, f2, z1, z2, z3, z4, g0, g1, g2⟩ := incb_pair (a := N) (b := 1) (p := P) zy (by omega) (by omega) (by omega) (by omega) (by omega) (by omega) (by omega) y0 y1
  rw [yf] at f2
  have s1 := dist_student (p := (P : Int)) (n := (N : Int)) (by omega) hv (by omega) (by omega) f1 z1 z2 g0
  have s2 := dist_student (p := (P : Int)) (n := (N : Int)) (x := -x) (by omega) (RatA_rv zn) (by omega) (by omega) (by rw [yn]; exact f1) z1 z2 g0
  rw [show stuB x l h = (1 - h * (1 / 2), 1 - l * (1 / 2)) by unfold stuB; rw [if_neg (by grind)]] at s1
  rw [show stuB (-x) l h = (l * (1 / 2), h * (1 / 2)) by unfold stuB; rw [if_pos (by grind)]] at s2
  have c1 := dist_Cdf (k := 5) (m := 0) nil_RatA nil_RatA (by omega) (by omega) (chk_student (n := (N : Int)) (by omega)) hv (P := P) (by omega) (chance_student hv s1 ⟨_, _, rfl⟩)
  have c2 := dist_Cdf (k := 5) (m := 0) nil_RatA nil_RatA (by omega) (by omega) (chk_student (n := (N : Int)) (by omega)) (RatA_rv zn) (P := P) (by omega) (chance_student (RatA_rv zn) s2 ⟨_, _, rfl⟩)
  have c3 := fisher_Cdf (n := 1) (m := (N : Int)) (P := P) (RatA_rv zq) (by omega) (by omega) (by omega) (by omega) hq (by omega) f2
  have w1 := szR_mono (szR_mul z1 hfQ_len (by omega)) (show _ ≤ 201 by omega)
  have w2 := szR_mono (szR_mul z2 hfQ_len (by omega)) (show _ ≤ 201 by omega)
  have w3 := szR_mono (szR_sub one_len w2 (by omega)) (show _ ≤ 300 by omega)
  have w4 := szR_mono (szR_sub one_len w1 (by omega)) (show _ ≤ 300 by omega)
  have sb := ref4_SubB w3 w4 w1 w2 (by omega) (by omega) (by omega)
  have sd := ref4_Side0 (szR_mono (szR_sub w3 w2 (by omega)) (show _ ≤ 900 by omega)) (szR_mono (szR_sub w4 w1 (by omega)) (show _ ≤ 900 by omega)) z3 z4 (by omega) (by omega) (by omega) (show l' ≤ 1 - l * (1 / 2) - l * (1 / 2) by rw [two_halves]; exact le_rest g1) (show 1 - h * (1 / 2) - h * (1 / 2) ≤ h' by rw [two_halves]; exact rest_le g2)
  have kn := known14
  clear y0 y1 y2 yn yf zx zq zy zn sq np f1 f2 z1 z2 z3 z4 g0 g1 g2 hq s1 s2 w1 w2 w3 w4
  clear hv hx
  generalize cmpR x 0 = z at *
  generalize 1 - h * (1 / 2) - h * (1 / 2) = u1 at *
  generalize 1 - l * (1 / 2) - l * (1 / 2) = u2 at *
  generalize 1 - h * (1 / 2) = u3 at *
  generalize 1 - l * (1 / 2) = u4 at *
  generalize h * (1 / 2) = u5 at *
  generalize l * (1 / 2) = u6 at *
  generalize -x = xn at *
  generalize x * x = xx at *
  refine Go.Ev.Fn.intro (fn := Tryz.f3) (body := (Tryz.f3).body.get!) (by kernel_rfl) (by kernel_rfl) (by kernel_rfl) (fun _ => rfl) (Nat.le_of_ble_eq_true (by kernel_rfl)) ?_; unfold Tryz.f3; simp only [Option.get!_some]
  repeat (first | (simp only [go_sem, Nat.reduceEqDiff, Nat.reduceAdd, Nat.reduceSub, Nat.reduceMul, Nat.reduceLeDiff, Nat.reduceLT, reduceIte, reduceCtorEq, Nat.succ_ne_zero, elemsC, Int.reduceToNat, Nat.reducePow, e1]) | (simp (disch := (first | omega | (simp only [AL, List.length_map]; omega))) only [AR, AL, ifT, ifF, take_all, List.length_cons, List.length_nil, Int.reduceToNat, Int.reducePow, Nat.reducePow, e1]) | (refine wk_intro (by kernel_rfl) ?_) | (refine vp_draw (id := 1) (l := []) (by kernel_rfl) ?_) | (refine vp_draw (id := 6) (l := []) (by kernel_rfl) ?_) | (refine vf_of (by first | exact i0 | exact cm | exact c1 | exact ng | exact c2 | exact mu | exact c3 | exact sb | exact sd | exact kn) ?_))
end
set_option maxRecDepth 100000 in
theorem parts_law (n : Int) (w0 : (Lit.int .i64 n).wf = true) (m : Int) (w1 : (Lit.int .i64 m).wf = true) (ss2 : List SV) (sh2 : ShpT Tryz.prog 6 24 ss2) (p : Int) (w3 : (Lit.int .i64 p).wf = true) :
    Go.Ev.Fn CX 4 [.int .i64 n, .int .i64 m, .agg ss2, .int .i64 p] (.bool true) := by
  obtain ⟨s, nn, dd, rfl, hn, hd, ln, ld⟩ := shp_rat (n := 3) sh2
  have r0 := wf_int64k w0
  have r1 := wf_int64k w1
  have r3 := wf_int64k w3
  have mx : maxLen ≤ 9223372036854775807 := by decide
  have m1 := Nat.le_trans ln mx
  have m2 := Nat.le_trans ld mx
  by_cases c : 1 ≤ n ∧ n ≤ 14 ∧ 1 ≤ m ∧ m ≤ 14 ∧ nn.length ≤ 1 ∧ dd.length ≤ 1 ∧ 0 ≤ p ∧ p ≤ 50
  · obtain ⟨c1, c2, c3, c4, c5, c6, c7, c8⟩ := c
    obtain ⟨x, hx⟩ : ∃ x : Rat, RatA (ratV s nn dd) x 1 := ⟨_, s, nn, dd, rfl, hn, hd, c5, c6, rfl⟩
    by_cases g : x ≤ 0
    · exact parts_low hx c5 c6 ⟨c1, c2⟩ ⟨c3, c4⟩ ⟨c7, c8⟩ g
    · obtain ⟨P, rfl⟩ : ∃ P : Nat, p = (P : Int) := ⟨p.toNat, by omega⟩
      exact parts_in hx c5 c6 ⟨c1, c2⟩ ⟨c3, c4⟩ (by omega) (Rat.not_le.1 g)
  · exact parts_out r0 r1 r3 m1 m2 (by omega)
set_option maxRecDepth 100000 in
theorem squares_law (n : Int) (w0 : (Lit.int .i64 n).wf = true) (ss1 : List SV) (sh1 : ShpT Tryz.prog 6 24 ss1) (p : Int) (w2 : (Lit.int .i64 p).wf = true) :
    Go.Ev.Fn CX 3 [.int .i64 n, .agg ss1, .int .i64 p] (.bool true) := by
  obtain ⟨s, nn, dd, rfl, hn, hd, ln, ld⟩ := shp_rat (n := 3) sh1
  have r0 := wf_int64k w0
  have r3 := wf_int64k w2
  have mx : maxLen ≤ 9223372036854775807 := by decide
  have m1 := Nat.le_trans ln mx
  have m2 := Nat.le_trans ld mx
  by_cases c : 1 ≤ n ∧ n ≤ 14 ∧ nn.length ≤ 1 ∧ dd.length ≤ 1 ∧ 0 ≤ p ∧ p ≤ 50
  · obtain ⟨c1, c2, c5, c6, c7, c8⟩ := c
    obtain ⟨x, hx⟩ : ∃ x : Rat, RatA (ratV s nn dd) x 1 := ⟨_, s, nn, dd, rfl, hn, hd, c5, c6, rfl⟩
    by_cases g : x ≤ 0
    · exact squares_low hx c5 c6 ⟨c1, c2⟩ ⟨c7, c8⟩ g
    · obtain ⟨P, rfl⟩ : ∃ P : Nat, p = (P : Int) := ⟨p.toNat, by omega⟩
      exact squares_in hx c5 c6 ⟨c1, c2⟩ (by omega) (Rat.not_le.1 g)
  · exact squares_out r0 r3 m1 m2 (by omega)
end Go.Proofs.YtodiciendlhkgaaGreat
