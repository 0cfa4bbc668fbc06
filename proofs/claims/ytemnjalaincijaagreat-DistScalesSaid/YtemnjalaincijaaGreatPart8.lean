/- Part 8 of the proof: the evaluator, contracts of functions and their plain laws (joined by program). No condition. -/
import Derived.Test.YtemnjalaincijaaGreatPart7
/- fix: One Next Shift Of Add Sub Mul Times Small Wider Floor; nat.Bits, in the evaluator. -/
namespace Go.Proofs.YtemnjalaincijaaGreat
set_option linter.unusedSimpArgs false
set_option linter.unusedVariables false
set_option maxRecDepth 8000
open Go.Ev
/-- Two naturals: a number that lies between them. -/
abbrev spanV (a b : Nat) : SV := .agg [natV (lim a), natV (lim b)]
/-- A natural times 2 to a power, or by it, rounded down. -/
def shfN (a : Nat) (n : Int) : Nat := if 0 ≤ n then a * 2 ^ n.toNat else a / 2 ^ (-n).toNat
theorem lim_len_shl {a n : Nat} : (lim (a * 2 ^ n)).length ≤ (lim a).length + n / 32 + 1 := by
  refine lim_len_lt ?_
  have h1 := lim_len_pow (a := a)
  have h2 : 2 ^ n ≤ 4294967296 ^ (n / 32 + 1) := by
    rw [show (4294967296 : Nat) = 2 ^ 32 from rfl, ← Nat.pow_mul]
    exact Nat.pow_le_pow_right (by omega) (by omega)
  calc a * 2 ^ n < 4294967296 ^ (lim a).length * 2 ^ n := Nat.mul_lt_mul_of_pos_right h1 (Nat.pow_pos (by omega))
    _ ≤ 4294967296 ^ (lim a).length * 4294967296 ^ (n / 32 + 1) := Nat.mul_le_mul_left _ h2
    _ = 4294967296 ^ ((lim a).length + n / 32 + 1) := by rw [← Nat.pow_add, Nat.add_assoc]
theorem fix_Over' {N D : Nat} (hD : D ≠ 0) (hl : (lim N).length ≤ 536870912) (hm : (lim D).length ≤ 536870912) : Go.Ev.Fn CX 180 [natV (lim N), natV (lim D)] (natV (lim (N / D))) := by
  have h := nat_DivL hD hl hm
  refine Go.Ev.Fn.intro (fn := Tryz.f180) (body := (Tryz.f180).body.get!) (by kernel_rfl) (by kernel_rfl) (by kernel_rfl) (fun _ => rfl) (Nat.le_of_ble_eq_true (by kernel_rfl)) ?_; unfold Tryz.f180; simp only [Option.get!_some]
  repeat (first | (simp only [go_sem, Nat.reduceEqDiff, Nat.reduceAdd, Nat.reduceSub, Nat.reduceMul, Nat.reduceLeDiff, Nat.reduceLT, reduceIte, reduceCtorEq, Nat.succ_ne_zero, elemsC, Int.reduceToNat, Nat.reducePow]) | (simp (disch := (first | omega | (simp only [AL, List.length_map]; omega))) only [AR, AL, ifT, ifF, take_all, List.length_cons, List.length_nil, Int.reduceToNat, Int.reducePow, Nat.reducePow]) | (refine wk_intro (by kernel_rfl) ?_) | (refine vf_of (by first | exact h) ?_))
theorem fix_One : Go.Ev.Fn CX 127 [] (natV (lim 1)) := by
  have o := nat_Of 1 (by omega)
  refine Go.Ev.Fn.intro (fn := Tryz.f127) (body := (Tryz.f127).body.get!) (by kernel_rfl) (by kernel_rfl) (by kernel_rfl) (fun _ => rfl) (Nat.le_of_ble_eq_true (by kernel_rfl)) ?_; unfold Tryz.f127; simp only [Option.get!_some]
  repeat (first | (simp only [go_sem, Nat.reduceEqDiff, Nat.reduceAdd, Nat.reduceSub, Nat.reduceMul, Nat.reduceLeDiff, Nat.reduceLT, reduceIte, reduceCtorEq, Nat.succ_ne_zero, elemsC, Int.reduceToNat, Nat.reducePow]) | (simp (disch := (first | omega | (simp only [AL, List.length_map]; omega))) only [AR, AL, ifT, ifF, take_all, List.length_cons, List.length_nil, Int.reduceToNat, Int.reducePow, Nat.reducePow]) | (refine wk_intro (by kernel_rfl) ?_) | (refine vf_of (by first | exact o) ?_))
theorem fix_Next {a : Nat} (h : (lim a).length ≤ 300000000) : Go.Ev.Fn CX 123 [natV (lim a)] (natV (lim (a + 1))) := by
  have o := fix_One
  have l := lim_len1
  have s := nat_AddL (N := a) (D := 1) (by omega) (by omega)
  refine Go.Ev.Fn.intro (fn := Tryz.f123) (body := (Tryz.f123).body.get!) (by kernel_rfl) (by kernel_rfl) (by kernel_rfl) (fun _ => rfl) (Nat.le_of_ble_eq_true (by kernel_rfl)) ?_; unfold Tryz.f123; simp only [Option.get!_some]
  repeat (first | (simp only [go_sem, Nat.reduceEqDiff, Nat.reduceAdd, Nat.reduceSub, Nat.reduceMul, Nat.reduceLeDiff, Nat.reduceLT, reduceIte, reduceCtorEq, Nat.succ_ne_zero, elemsC, Int.reduceToNat, Nat.reducePow]) | (simp (disch := (first | omega | (simp only [AL, List.length_map]; omega))) only [AR, AL, ifT, ifF, take_all, List.length_cons, List.length_nil, Int.reduceToNat, Int.reducePow, Nat.reducePow]) | (refine wk_intro (by kernel_rfl) ?_) | (refine vf_of (by first | exact o | exact s) ?_))
theorem fix_Add {a b c d : Nat} (h1 : (lim a).length ≤ 300000000) (h2 : (lim b).length ≤ 300000000) (h3 : (lim c).length ≤ 300000000) (h4 : (lim d).length ≤ 300000000) : Go.Ev.Fn CX 101 [spanV a b, spanV c d] (spanV (a + c) (b + d)) := by
  have s1 := nat_AddL (N := a) (D := c) (by omega) (by omega)
  have s2 := nat_AddL (N := b) (D := d) (by omega) (by omega)
  refine Go.Ev.Fn.intro (fn := Tryz.f101) (body := (Tryz.f101).body.get!) (by kernel_rfl) (by kernel_rfl) (by kernel_rfl) (fun _ => rfl) (Nat.le_of_ble_eq_true (by kernel_rfl)) ?_; unfold Tryz.f101; simp only [Option.get!_some]
  repeat (first | (simp only [go_sem, Nat.reduceEqDiff, Nat.reduceAdd, Nat.reduceSub, Nat.reduceMul, Nat.reduceLeDiff, Nat.reduceLT, reduceIte, reduceCtorEq, Nat.succ_ne_zero, elemsC, Int.reduceToNat, Nat.reducePow]) | (simp (disch := (first | omega | (simp only [AL, List.length_map]; omega))) only [AR, AL, ifT, ifF, take_all, List.length_cons, List.length_nil, Int.reduceToNat, Int.reducePow, Nat.reducePow]) | (refine wk_intro (by kernel_rfl) ?_) | (refine vp_draw (id := 1) (l := [6, 8, 11, 13]) (by kernel_rfl) ?_) | (refine vf_of (by first | exact s1 | exact s2) ?_))
theorem fix_Wider {a b n : Nat} (h1 : (lim a).length ≤ 300000000) (h2 : (lim b).length ≤ 300000000) (hn : n < 18446744073709551616) : Go.Ev.Fn CX 130 [spanV a b, .int .u64 (n : Int)] (spanV a (b + n)) := by
  have o := nat_Of n hn
  have l : (lim n).length ≤ 300000000 := Nat.le_trans (lim_len_lt (L := 2) (by omega)) (by omega)
  have s := nat_AddL (N := b) (D := n) (by omega) (by omega)
  refine Go.Ev.Fn.intro (fn := Tryz.f130) (body := (Tryz.f130).body.get!) (by kernel_rfl) (by kernel_rfl) (by kernel_rfl) (fun _ => rfl) (Nat.le_of_ble_eq_true (by kernel_rfl)) ?_; unfold Tryz.f130; simp only [Option.get!_some]
  repeat (first | (simp only [go_sem, Nat.reduceEqDiff, Nat.reduceAdd, Nat.reduceSub, Nat.reduceMul, Nat.reduceLeDiff, Nat.reduceLT, reduceIte, reduceCtorEq, Nat.succ_ne_zero, elemsC, Int.reduceToNat, Nat.reducePow]) | (simp (disch := (first | omega | (simp only [AL, List.length_map]; omega))) only [AR, AL, ifT, ifF, take_all, List.length_cons, List.length_nil, Int.reduceToNat, Int.reducePow, Nat.reducePow]) | (refine wk_intro (by kernel_rfl) ?_) | (refine vp_draw (id := 1) (l := [8, 10]) (by kernel_rfl) ?_) | (refine vf_of (by first | exact o | exact s) ?_))
theorem fix_Times {a b n d : Nat} (h1 : (lim a).length ≤ 100000000) (h2 : (lim b).length ≤ 100000000) (h3 : (lim n).length ≤ 100000000) (h4 : (lim d).length ≤ 100000000) (hd : d ≠ 0) : Go.Ev.Fn CX 125 [spanV a b, natV (lim n), natV (lim d)] (spanV (a * n / d) (b * n / d + 1)) := by
  have m1 := nat_MulL (N := a) (D := n) (by omega) (by omega)
  have m2 := nat_MulL (N := b) (D := n) (by omega) (by omega)
  have l1 := lim_len_mul (a := a) (b := n)
  have l2 := lim_len_mul (a := b) (b := n)
  have o1 := fix_Over' (N := a * n) (D := d) hd (by omega) (by omega)
  have o2 := fix_Over' (N := b * n) (D := d) hd (by omega) (by omega)
  have l3 := lim_len_mono (Nat.div_le_self (b * n) d)
  have n1 := fix_Next (a := b * n / d) (by omega)
  generalize a * n / d = x at *
  generalize b * n / d = y at *
  generalize a * n = u at *
  generalize b * n = v at *
  refine Go.Ev.Fn.intro (fn := Tryz.f125) (body := (Tryz.f125).body.get!) (by kernel_rfl) (by kernel_rfl) (by kernel_rfl) (fun _ => rfl) (Nat.le_of_ble_eq_true (by kernel_rfl)) ?_; unfold Tryz.f125; simp only [Option.get!_some]
  repeat (first | (simp only [go_sem, Nat.reduceEqDiff, Nat.reduceAdd, Nat.reduceSub, Nat.reduceMul, Nat.reduceLeDiff, Nat.reduceLT, reduceIte, reduceCtorEq, Nat.succ_ne_zero, elemsC, Int.reduceToNat, Nat.reducePow]) | (simp (disch := (first | omega | (simp only [AL, List.length_map]; omega))) only [AR, AL, ifT, ifF, take_all, List.length_cons, List.length_nil, Int.reduceToNat, Int.reducePow, Nat.reducePow]) | (refine wk_intro (by kernel_rfl) ?_) | (refine vp_draw (id := 1) (l := [8, 1, 10, 2, 14, 1, 16, 2, 18]) (by kernel_rfl) ?_) | (refine vf_of (by first | exact m1 | exact o1 | exact m2 | exact o2 | exact n1) ?_))
theorem fix_Less' {N D : Nat} (hl : (lim N).length ≤ 536870912) (hm : (lim D).length ≤ 536870912) : Go.Ev.Fn CX 209 [natV (lim N), natV (lim D)] (natV (lim (N - D))) := by
  have h := nat_SubL hl hm
  refine Go.Ev.Fn.intro (fn := Tryz.f209) (body := (Tryz.f209).body.get!) (by kernel_rfl) (by kernel_rfl) (by kernel_rfl) (fun _ => rfl) (Nat.le_of_ble_eq_true (by kernel_rfl)) ?_; unfold Tryz.f209; simp only [Option.get!_some]
  repeat (first | (simp only [go_sem, Nat.reduceEqDiff, Nat.reduceAdd, Nat.reduceSub, Nat.reduceMul, Nat.reduceLeDiff, Nat.reduceLT, reduceIte, reduceCtorEq, Nat.succ_ne_zero, elemsC, Int.reduceToNat, Nat.reducePow]) | (simp (disch := (first | omega | (simp only [AL, List.length_map]; omega))) only [AR, AL, ifT, ifF, take_all, List.length_cons, List.length_nil, Int.reduceToNat, Int.reducePow, Nat.reducePow]) | (refine wk_intro (by kernel_rfl) ?_) | (refine vf_of (by first | exact h) ?_))
theorem fix_Sub {a b c d : Nat} (h1 : (lim a).length ≤ 100000000) (h2 : (lim b).length ≤ 100000000) (h3 : (lim c).length ≤ 100000000) (h4 : (lim d).length ≤ 100000000) : Go.Ev.Fn CX 215 [spanV a b, spanV c d] (spanV (a - d) (b - c + 1)) := by
  have m1 := fix_Less' (N := a) (D := d) (by omega) (by omega)
  have m2 := fix_Less' (N := b) (D := c) (by omega) (by omega)
  have l := lim_len_mono (Nat.sub_le b c)
  have n1 := fix_Next (a := b - c) (by omega)
  generalize a - d = x at *
  generalize b - c = y at *
  refine Go.Ev.Fn.intro (fn := Tryz.f215) (body := (Tryz.f215).body.get!) (by kernel_rfl) (by kernel_rfl) (by kernel_rfl) (fun _ => rfl) (Nat.le_of_ble_eq_true (by kernel_rfl)) ?_; unfold Tryz.f215; simp only [Option.get!_some]
  repeat (first | (simp only [go_sem, Nat.reduceEqDiff, Nat.reduceAdd, Nat.reduceSub, Nat.reduceMul, Nat.reduceLeDiff, Nat.reduceLT, reduceIte, reduceCtorEq, Nat.succ_ne_zero, elemsC, Int.reduceToNat, Nat.reducePow]) | (simp (disch := (first | omega | (simp only [AL, List.length_map]; omega))) only [AR, AL, ifT, ifF, take_all, List.length_cons, List.length_nil, Int.reduceToNat, Int.reducePow, Nat.reducePow]) | (refine wk_intro (by kernel_rfl) ?_) | (refine vp_draw (id := 1) (l := [6, 8, 11, 13, 14]) (by kernel_rfl) ?_) | (refine vf_of (by first | exact m1 | exact m2 | exact n1) ?_))
end Go.Proofs.YtemnjalaincijaaGreat

/- fix.Shift, in the evaluator. -/
namespace Go.Proofs.YtemnjalaincijaaGreat
set_option linter.unusedSimpArgs false
set_option linter.unusedVariables false
set_option maxRecDepth 8000
open Go.Ev
theorem nat_shl {N m : Nat} (h : (lim N).length ≤ 1073741824) (hm : m ≤ 4096) : Go.Ev.Fn CX 179 [natV (lim N), .int .i64 (m : Int)] (natV (lim (N * 2 ^ m))) := by
  have := shift_up (lim N) m (okL_lim _) h _ rfl hm
  rwa [wth_lim] at this
theorem nat_shr {N m : Nat} (h : (lim N).length ≤ 1073741824) (hm : m ≤ 4096) (h0 : 0 < m) : Go.Ev.Fn CX 179 [natV (lim N), .int .i64 (-(m : Int))] (natV (lim (N / 2 ^ m))) := by
  have := shift_down (lim N) m (okL_lim _) h _ rfl hm h0
  rwa [wth_lim] at this
theorem fix_shl {a m : Nat} (ha : (lim a).length ≤ 100000000) (hm : m ≤ 1000000000) : Go.Ev.Fn CX 121 [natV (lim a), .int .i64 (m : Int)] (natV (lim (a * 2 ^ m))) := by
  have hl := fun j => lim_len_shl (a := a) (n := j)
  refine Go.Ev.Fn.intro (fn := Tryz.f121) (body := (Tryz.f121).body.get!) (by kernel_rfl) (by kernel_rfl) (by kernel_rfl) (fun _ => rfl) (Nat.le_of_ble_eq_true (by kernel_rfl)) ?_; unfold Tryz.f121; simp only [Option.get!_some]
  repeat (first | (simp only [go_sem, Nat.reduceEqDiff, Nat.reduceAdd, Nat.reduceSub, Nat.reduceMul, Nat.reduceLeDiff, Nat.reduceLT, reduceIte, reduceCtorEq, Nat.succ_ne_zero, elemsC, Int.reduceToNat, Nat.reducePow]) | (simp (disch := (first | omega | (simp only [AL, List.length_map]; omega))) only [AR, AL, ifT, ifF, take_all, List.length_cons, List.length_nil, Int.reduceToNat, Int.reducePow, Nat.reducePow]) | (refine wk_intro (by kernel_rfl) ?_))
  refine vp_loop_inv (fun s => ∃ j : Nat, j ≤ m ∧ s.tmp 0 = .sv (natV (lim (a * 2 ^ j))) ∧ s.tmp 1 = .sv (.int .i64 ((m - j : Nat) : Int)))
    (fun s => match s.tmp 1 with | .sv (.int _ i) => i.toNat | _ => 0) ⟨0, by omega, by rw [Nat.pow_zero, Nat.mul_one]; rfl, rfl⟩ ?_
  rintro s ⟨j, hj, i0, i1⟩
  have hlj := hl j
  by_cases hc : 1024 < m - j
  · obtain ⟨K, hK⟩ : ∃ K : Nat, K = 1024 := ⟨_, rfl⟩
    have st := nat_shl (N := a * 2 ^ j) (m := K) (by omega) (by omega)
    rw [Nat.mul_assoc, ← Nat.pow_add] at st
    generalize hx : a * 2 ^ j = x at *
    generalize hy : a * 2 ^ (j + K) = y at *
    rw [show (K : Int) = 1024 by omega] at st
    repeat (first | (simp only [go_sem, Nat.reduceEqDiff, Nat.reduceAdd, Nat.reduceSub, Nat.reduceMul, Nat.reduceLeDiff, Nat.reduceLT, reduceIte, reduceCtorEq, Nat.succ_ne_zero, elemsC, Int.reduceToNat, Nat.reducePow, i0, i1]) | (simp (disch := (first | omega | (simp only [AL, List.length_map]; omega))) only [AR, AL, ifT, ifF, take_all, List.length_cons, List.length_nil, Int.reduceToNat, Int.reducePow, Nat.reducePow, i0, i1]) | (refine wk_intro (by kernel_rfl) ?_) | (refine vf_of (by first | exact st) ?_))
    exact ⟨⟨j + K, by omega, by rw [hy], by rw [show ((m - (j + K) : Nat) : Int) = ((m - j : Nat) : Int) - 1024 by omega]⟩, by omega⟩
  · have st := nat_shl (N := a * 2 ^ j) (m := m - j) (by omega) (by omega)
    rw [Nat.mul_assoc, ← Nat.pow_add, show j + (m - j) = m by omega] at st
    generalize a * 2 ^ j = x at *
    generalize a * 2 ^ m = y at *
    repeat (first | (simp only [go_sem, Nat.reduceEqDiff, Nat.reduceAdd, Nat.reduceSub, Nat.reduceMul, Nat.reduceLeDiff, Nat.reduceLT, reduceIte, reduceCtorEq, Nat.succ_ne_zero, elemsC, Int.reduceToNat, Nat.reducePow, i0, i1]) | (simp (disch := (first | omega | (simp only [AL, List.length_map]; omega))) only [AR, AL, ifT, ifF, take_all, List.length_cons, List.length_nil, Int.reduceToNat, Int.reducePow, Nat.reducePow, i0, i1]) | (refine wk_intro (by kernel_rfl) ?_))
    refine vp_loop_inv (fun s => s.tmp 0 = .sv (natV (lim x)) ∧ s.tmp 1 = .sv (.int .i64 ((m - j : Nat) : Int))) (fun _ => 0) ⟨i0, i1⟩ ?_
    rintro s' ⟨j0, j1⟩
    repeat (first | (simp only [go_sem, Nat.reduceEqDiff, Nat.reduceAdd, Nat.reduceSub, Nat.reduceMul, Nat.reduceLeDiff, Nat.reduceLT, reduceIte, reduceCtorEq, Nat.succ_ne_zero, elemsC, Int.reduceToNat, Nat.reducePow, j0, j1]) | (simp (disch := (first | omega | (simp only [AL, List.length_map]; omega))) only [AR, AL, ifT, ifF, take_all, List.length_cons, List.length_nil, Int.reduceToNat, Int.reducePow, Nat.reducePow, j0, j1]) | (refine wk_intro (by kernel_rfl) ?_) | (refine vf_of (by first | exact st) ?_))
theorem fix_shr {a m : Nat} (ha : (lim a).length ≤ 300000000) (hm : m ≤ 1000000000) (h0 : 0 < m) : Go.Ev.Fn CX 121 [natV (lim a), .int .i64 (-(m : Int))] (natV (lim (a / 2 ^ m))) := by
  have hl := fun j => lim_len_mono (Nat.div_le_self a (2 ^ j))
  refine Go.Ev.Fn.intro (fn := Tryz.f121) (body := (Tryz.f121).body.get!) (by kernel_rfl) (by kernel_rfl) (by kernel_rfl) (fun _ => rfl) (Nat.le_of_ble_eq_true (by kernel_rfl)) ?_; unfold Tryz.f121; simp only [Option.get!_some]
  repeat (first | (simp only [go_sem, Nat.reduceEqDiff, Nat.reduceAdd, Nat.reduceSub, Nat.reduceMul, Nat.reduceLeDiff, Nat.reduceLT, reduceIte, reduceCtorEq, Nat.succ_ne_zero, elemsC, Int.reduceToNat, Nat.reducePow]) | (simp (disch := (first | omega | (simp only [AL, List.length_map]; omega))) only [AR, AL, ifT, ifF, take_all, List.length_cons, List.length_nil, Int.reduceToNat, Int.reducePow, Nat.reducePow]) | (refine wk_intro (by kernel_rfl) ?_))
  refine vp_loop_inv (fun s => s.tmp 0 = .sv (natV (lim a)) ∧ s.tmp 1 = .sv (.int .i64 (-(m : Int)))) (fun _ => 0) ⟨rfl, rfl⟩ ?_
  rintro s ⟨i0, i1⟩
  repeat (first | (simp only [go_sem, Nat.reduceEqDiff, Nat.reduceAdd, Nat.reduceSub, Nat.reduceMul, Nat.reduceLeDiff, Nat.reduceLT, reduceIte, reduceCtorEq, Nat.succ_ne_zero, elemsC, Int.reduceToNat, Nat.reducePow, i0, i1]) | (simp (disch := (first | omega | (simp only [AL, List.length_map]; omega))) only [AR, AL, ifT, ifF, take_all, List.length_cons, List.length_nil, Int.reduceToNat, Int.reducePow, Nat.reducePow, i0, i1]) | (refine wk_intro (by kernel_rfl) ?_))
  refine vp_loop_inv (fun s => ∃ j : Nat, j < m ∧ s.tmp 0 = .sv (natV (lim (a / 2 ^ j))) ∧ s.tmp 1 = .sv (.int .i64 (-((m - j : Nat) : Int))))
    (fun s => match s.tmp 1 with | .sv (.int _ i) => (-i).toNat | _ => 0) ⟨0, by omega, by rw [Nat.pow_zero, Nat.div_one]; exact i0, i1⟩ ?_
  rintro s2 ⟨j, hj, j0, j1⟩
  have hlj := hl j
  by_cases hc : 1024 < m - j
  · obtain ⟨K, hK⟩ : ∃ K : Nat, K = 1024 := ⟨_, rfl⟩
    have st := nat_shr (N := a / 2 ^ j) (m := K) (by omega) (by omega) (by omega)
    rw [Nat.div_div_eq_div_mul, ← Nat.pow_add] at st
    generalize hx : a / 2 ^ j = x at *
    generalize hy : a / 2 ^ (j + K) = y at *
    rw [show -(K : Int) = -1024 by omega] at st
    repeat (first | (simp only [go_sem, Nat.reduceEqDiff, Nat.reduceAdd, Nat.reduceSub, Nat.reduceMul, Nat.reduceLeDiff, Nat.reduceLT, reduceIte, reduceCtorEq, Nat.succ_ne_zero, elemsC, Int.reduceToNat, Nat.reducePow, j0, j1]) | (simp (disch := (first | omega | (simp only [AL, List.length_map]; omega))) only [AR, AL, ifT, ifF, take_all, List.length_cons, List.length_nil, Int.reduceToNat, Int.reducePow, Nat.reducePow, j0, j1]) | (refine wk_intro (by kernel_rfl) ?_) | (refine vf_of (by first | exact st) ?_))
    exact ⟨⟨j + K, by omega, by rw [hy], by rw [show -((m - (j + K) : Nat) : Int) = -((m - j : Nat) : Int) + 1024 by omega]⟩, by omega⟩
  · have st := nat_shr (N := a / 2 ^ j) (m := m - j) (by omega) (by omega) (by omega)
    rw [Nat.div_div_eq_div_mul, ← Nat.pow_add, show j + (m - j) = m by omega] at st
    generalize a / 2 ^ j = x at *
    generalize a / 2 ^ m = y at *
    repeat (first | (simp only [go_sem, Nat.reduceEqDiff, Nat.reduceAdd, Nat.reduceSub, Nat.reduceMul, Nat.reduceLeDiff, Nat.reduceLT, reduceIte, reduceCtorEq, Nat.succ_ne_zero, elemsC, Int.reduceToNat, Nat.reducePow, j0, j1]) | (simp (disch := (first | omega | (simp only [AL, List.length_map]; omega))) only [AR, AL, ifT, ifF, take_all, List.length_cons, List.length_nil, Int.reduceToNat, Int.reducePow, Nat.reducePow, j0, j1]) | (refine wk_intro (by kernel_rfl) ?_) | (refine vf_of (by first | exact st) ?_))
end Go.Proofs.YtemnjalaincijaaGreat

/- fix: Mul, Unit, Of, in the evaluator. -/
namespace Go.Proofs.YtemnjalaincijaaGreat
set_option linter.unusedSimpArgs false
set_option linter.unusedVariables false
set_option maxRecDepth 8000
open Go.Ev
theorem fix_Mul {a b c d w : Nat} (h1 : (lim a).length ≤ 100000000) (h2 : (lim b).length ≤ 100000000) (h3 : (lim c).length ≤ 100000000) (h4 : (lim d).length ≤ 100000000) (hw : w ≤ 1000000000) (h0 : 0 < w) : Go.Ev.Fn CX 60 [spanV a b, spanV c d, .int .i64 (w : Int)] (spanV (a * c / 2 ^ w) (b * d / 2 ^ w + 1)) := by
  have m1 := nat_MulL (N := a) (D := c) (by omega) (by omega)
  have m2 := nat_MulL (N := b) (D := d) (by omega) (by omega)
  have l1 := lim_len_mul (a := a) (b := c)
  have l2 := lim_len_mul (a := b) (b := d)
  have s1 := fix_shr (a := a * c) (m := w) (by omega) hw h0
  have s2 := fix_shr (a := b * d) (m := w) (by omega) hw h0
  have l3 := lim_len_mono (Nat.div_le_self (b * d) (2 ^ w))
  have n1 := fix_Next (a := b * d / 2 ^ w) (by omega)
  generalize a * c / 2 ^ w = x at *
  generalize b * d / 2 ^ w = y at *
  generalize a * c = u at *
  generalize b * d = v at *
  have e0 : (0 : Int) - (w : Int) = -(w : Int) := by omega
  refine Go.Ev.Fn.intro (fn := Tryz.f60) (body := (Tryz.f60).body.get!) (by kernel_rfl) (by kernel_rfl) (by kernel_rfl) (fun _ => rfl) (Nat.le_of_ble_eq_true (by kernel_rfl)) ?_; unfold Tryz.f60; simp only [Option.get!_some]
  repeat (first | (simp only [go_sem, Nat.reduceEqDiff, Nat.reduceAdd, Nat.reduceSub, Nat.reduceMul, Nat.reduceLeDiff, Nat.reduceLT, reduceIte, reduceCtorEq, Nat.succ_ne_zero, elemsC, Int.reduceToNat, Nat.reducePow, e0]) | (simp (disch := (first | omega | (simp only [AL, List.length_map]; omega))) only [AR, AL, ifT, ifF, take_all, List.length_cons, List.length_nil, Int.reduceToNat, Int.reducePow, Nat.reducePow, e0]) | (refine wk_intro (by kernel_rfl) ?_) | (refine vp_draw (id := 1) (l := [8, 10, 11, 16, 18, 19, 22]) (by kernel_rfl) ?_) | (refine vf_of (by first | exact m1 | exact s1 | exact m2 | exact s2 | exact n1) ?_))
end Go.Proofs.YtemnjalaincijaaGreat

/- nat.Bits; fix: Of, Small, Floor, Certain (one round); arcs.held, in the evaluator. -/
namespace Go.Proofs.YtemnjalaincijaaGreat
set_option linter.unusedSimpArgs false
set_option linter.unusedVariables false
set_option maxRecDepth 8000
open Go.Ev
theorem fix_Of {n d w : Nat} (h1 : (lim n).length ≤ 100000000) (h2 : (lim d).length ≤ 100000000) (hd : d ≠ 0) (hw : w ≤ 1000000000) : Go.Ev.Fn CX 177 [natV (lim n), natV (lim d), .int .i64 (w : Int)] (spanV (n * 2 ^ w / d) (n * 2 ^ w / d + 1)) := by
  have s1 := fix_shl (a := n) (m := w) (by omega) hw
  have l1 := lim_len_shl (a := n) (n := w)
  have o1 := fix_Over' (N := n * 2 ^ w) (D := d) hd (by omega) (by omega)
  have l3 := lim_len_mono (Nat.div_le_self (n * 2 ^ w) d)
  have n1 := fix_Next (a := n * 2 ^ w / d) (by omega)
  generalize n * 2 ^ w / d = x at *
  generalize n * 2 ^ w = y at *
  refine Go.Ev.Fn.intro (fn := Tryz.f177) (body := (Tryz.f177).body.get!) (by kernel_rfl) (by kernel_rfl) (by kernel_rfl) (fun _ => rfl) (Nat.le_of_ble_eq_true (by kernel_rfl)) ?_; unfold Tryz.f177; simp only [Option.get!_some]
  repeat (first | (simp only [go_sem, Nat.reduceEqDiff, Nat.reduceAdd, Nat.reduceSub, Nat.reduceMul, Nat.reduceLeDiff, Nat.reduceLT, reduceIte, reduceCtorEq, Nat.succ_ne_zero, elemsC, Int.reduceToNat, Nat.reducePow]) | (simp (disch := (first | omega | (simp only [AL, List.length_map]; omega))) only [AR, AL, ifT, ifF, take_all, List.length_cons, List.length_nil, Int.reduceToNat, Int.reducePow, Nat.reducePow]) | (refine wk_intro (by kernel_rfl) ?_) | (refine vf_of (by first | exact s1 | exact o1 | exact n1) ?_))
theorem fix_Floor {a b w p : Nat} (h1 : (lim a).length ≤ 100000000) (h2 : (lim b).length ≤ 100000000) (hp : p < w) (hw : w ≤ 1000000000) : Go.Ev.Fn CX 176 [spanV a b, .int .i64 (w : Int), .int .i64 (p : Int)] (.tup [natV (lim (a / 2 ^ (w - p))), .bool (decide (a / 2 ^ (w - p) = (b - 1) / 2 ^ (w - p)))]) := by
  have e0 : (p : Int) - (w : Int) = -((w - p : Nat) : Int) := by omega
  have l1 := lim_len1
  have s1 := fix_shr (a := a) (m := w - p) (by omega) (by omega) (by omega)
  have o := fix_One
  have m1 := fix_Less' (N := b) (D := 1) (by omega) (by omega)
  have l2 := lim_len_mono (Nat.sub_le b 1)
  have s2 := fix_shr (a := b - 1) (m := w - p) (by omega) (by omega) (by omega)
  have l3 := lim_len_mono (Nat.div_le_self a (2 ^ (w - p)))
  have l4 := lim_len_mono (Nat.div_le_self (b - 1) (2 ^ (w - p)))
  have c := nat_CmpL (N := a / 2 ^ (w - p)) (D := (b - 1) / 2 ^ (w - p)) (by omega) (by omega)
  generalize a / 2 ^ (w - p) = x at *
  generalize (b - 1) / 2 ^ (w - p) = y at *
  generalize b - 1 = b' at *
  have e1 : (cmpN x y == 0) = decide (x = y) := by
    rw [show (cmpN x y == 0) = decide (cmpN x y = 0) from by by_cases h : cmpN x y = 0 <;> simp [h]]
    exact decide_eq_decide.2 (by unfold cmpN; split <;> (try split) <;> omega)
  generalize cmpN x y = z at *
  generalize decide (x = y) = q at *
  generalize hk : w - p = k at *
  refine Go.Ev.Fn.intro (fn := Tryz.f176) (body := (Tryz.f176).body.get!) (by kernel_rfl) (by kernel_rfl) (by kernel_rfl) (fun _ => rfl) (Nat.le_of_ble_eq_true (by kernel_rfl)) ?_; unfold Tryz.f176; simp only [Option.get!_some]
  repeat (first | (simp only [go_sem, Nat.reduceEqDiff, Nat.reduceAdd, Nat.reduceSub, Nat.reduceMul, Nat.reduceLeDiff, Nat.reduceLT, reduceIte, reduceCtorEq, Nat.succ_ne_zero, elemsC, Int.reduceToNat, Nat.reducePow, e0, e1]) | (simp (disch := (first | omega | (simp only [AL, List.length_map]; omega))) only [AR, AL, ifT, ifF, take_all, List.length_cons, List.length_nil, Int.reduceToNat, Int.reducePow, Nat.reducePow, e0, e1]) | (refine wk_intro (by kernel_rfl) ?_) | (refine vp_draw (id := 2) (l := [18, 19, 20, 8, 24]) (by kernel_rfl) ?_) | (refine vf_of (by first | exact s1 | exact o | exact m1 | exact s2 | exact c) ?_))
end Go.Proofs.YtemnjalaincijaaGreat

/- Sums, means, variances of rows of numbers: plain mathematics; what a row of Rats reads as. No program. -/
namespace Go.Proofs.YtemnjalaincijaaGreat
open Go.Ev
def sumR (l : List Rat) : Rat := l.foldl (fun a b => a + b) 0
def meanR (l : List Rat) : Rat := sumR l / ((l.length : Int) : Rat)
def offR (l : List Rat) : List Rat := l.map fun x => x - meanR l
def sqR (l : List Rat) : Rat := sumR ((offR l).map fun x => x * x)
def varR (l : List Rat) : Rat := sqR l / (((l.length : Int) - 1 : Int) : Rat)
theorem foldl_add (l : List Rat) (a : Rat) : l.foldl (fun a b => a + b) a = a + sumR l := by
  unfold sumR
  induction l generalizing a with
  | nil => simp only [List.foldl_nil]; grind
  | cons x l ih => simp only [List.foldl_cons]; rw [ih (a + x), ih (0 + x)]; grind
theorem sumR_nil : sumR [] = 0 := rfl
theorem sumR_cons (x : Rat) (l : List Rat) : sumR (x :: l) = x + sumR l := by
  show List.foldl _ (0 + x) l = _
  rw [foldl_add]; grind
theorem sumR_append (l m : List Rat) : sumR (l ++ m) = sumR l + sumR m := by
  unfold sumR; rw [List.foldl_append, foldl_add]; rfl
theorem sumR_snoc (l : List Rat) (x : Rat) : sumR (l ++ [x]) = sumR l + x := by
  rw [sumR_append, sumR_cons, sumR_nil]; grind
theorem take_snoc (l : List Rat) {i : Nat} (h : i < l.length) : l.take (i + 1) = l.take i ++ [l.getD i 0] := by
  rw [List.take_add_one, List.getD_eq_getElem?_getD, List.getElem?_eq_getElem h]
  rfl
theorem sumR_take (l : List Rat) {i : Nat} (h : i < l.length) : sumR (l.take (i + 1)) = sumR (l.take i) + l.getD i 0 := by rw [take_snoc l h, sumR_snoc]
theorem map_take_snoc (l : List Rat) (f : Rat → Rat) {i : Nat} (h : i < l.length) : (l.take (i + 1)).map f = (l.take i).map f ++ [f (l.getD i 0)] := by
  rw [take_snoc l h, List.map_append]; rfl
theorem getD_mem {l : List Rat} {i : Nat} (h : i < l.length) : l.getD i 0 ∈ l := by
  rw [List.getD_eq_getElem?_getD, List.getElem?_eq_getElem h]; exact List.getElem_mem h
theorem getD_map (l : List Rat) (f : Rat → Rat) {i : Nat} (h : i < l.length) : (l.map f).getD i 0 = f (l.getD i 0) := by
  rw [List.getD_eq_getElem?_getD, List.getD_eq_getElem?_getD, List.getElem?_map, List.getElem?_eq_getElem h]; rfl
theorem sz_sum {L : Nat} (hL : 1 ≤ L) : ∀ l : List Rat, (∀ x ∈ l, szR x L) → szR (sumR l) ((L + 1) * l.length + 1) := by
  intro l
  induction l with
  | nil => intro _; exact szR_zero (by omega)
  | cons x l ih =>
    intro h
    rw [sumR_cons]
    have h1 := ih fun y hy => h y (List.mem_cons_of_mem _ hy)
    exact szR_mono (szR_add (h x List.mem_cons_self) h1 hL) (by rw [List.length_cons, Nat.mul_succ]; omega)
theorem sz_sum12 {L : Nat} {l : List Rat} (hL : 1 ≤ L) (h : ∀ x ∈ l, szR x L) (hl : l.length ≤ 12) : szR (sumR l) (12 * L + 13) :=
  szR_mono (sz_sum hL l h) (by have := Nat.mul_le_mul_left (L + 1) hl; omega)
theorem sz_take12 {L : Nat} {l : List Rat} (hL : 1 ≤ L) (h : ∀ x ∈ l, szR x L) (hl : l.length ≤ 12) (i : Nat) : szR (sumR (l.take i)) (12 * L + 13) :=
  sz_sum12 hL (fun x hx => h x (List.mem_of_mem_take hx)) (by rw [List.length_take]; omega)
theorem sz_mean {L : Nat} {l : List Rat} (hL : 1 ≤ L) (h : ∀ x ∈ l, szR x L) (hl : l.length ≤ 12) : szR (meanR l) (12 * L + 15) :=
  szR_div (M := 2) (sz_sum12 hL h hl) (int_szR (by omega)) (by omega) (by omega)
theorem sz_off {L : Nat} {l : List Rat} (hL : 1 ≤ L) (h : ∀ x ∈ l, szR x L) (hl : l.length ≤ 12) : ∀ x ∈ offR l, szR x (13 * L + 16) := by
  intro x hx
  obtain ⟨y, hy, rfl⟩ := List.mem_map.1 hx
  exact szR_mono (szR_sub (h y hy) (sz_mean hL h hl) hL) (by omega)
theorem sz_map {L M : Nat} {l : List Rat} {f : Rat → Rat} (h : ∀ x ∈ l, szR x L) (hf : ∀ x, szR x L → szR (f x) M) : ∀ x ∈ l.map f, szR x M := by
  intro x hx
  obtain ⟨y, hy, rfl⟩ := List.mem_map.1 hx
  exact hf y (h y hy)
theorem sz_sq {L : Nat} {l : List Rat} (hL : 1 ≤ L) (h : ∀ x ∈ l, szR x L) (hl : l.length ≤ 12) : szR (sqR l) (312 * L + 397) := by
  have h1 := sz_map (f := fun x => x * x) (sz_off hL h hl) (fun x hx => szR_mul hx hx (by omega))
  exact szR_mono (sz_sum12 (by omega) h1 (by rw [List.length_map]; unfold offR; rw [List.length_map]; exact hl)) (by omega)
theorem sz_var {L : Nat} {l : List Rat} (hL : 1 ≤ L) (h : ∀ x ∈ l, szR x L) (hl : l.length ≤ 12) : szR (varR l) (312 * L + 399) :=
  szR_div (M := 2) (sz_sq hL h hl) (int_szR (by omega)) (by omega) (by omega)
/-- A row of Rats, cell by cell. -/
def RowC : List SV → List Rat → Nat → Prop
  | cs, [], _ => cs = []
  | cs, q :: l, L => ∃ s n d rest, cs = .bool s :: natV n :: natV d :: rest ∧ RatA (ratV s n d) q L ∧ RowC rest l L
theorem row_len {L : Nat} : ∀ {l : List Rat} {cs : List SV}, RowC cs l L → cs.length = l.length * 3
  | [], _, h => by cases h; rfl
  | q :: l, cs, h => by
    obtain ⟨s, n, d, rest, rfl, -, h2⟩ := h
    have := row_len h2
    simp only [List.length_cons]
    omega
theorem row_one {L : Nat} : ∀ {l : List Rat} {cs : List SV}, RowC cs l L → cs.all SV.one = true
  | [], _, h => by cases h; rfl
  | q :: l, cs, h => by
    obtain ⟨s, n, d, rest, rfl, -, h2⟩ := h
    have := row_one h2
    simp only [List.all_cons, this]
    rfl
theorem row_at {L : Nat} : ∀ {l : List Rat} {cs : List SV} {i : Nat}, RowC cs l L → i < l.length → ∃ s n d rest, cs.drop (i * 3) = .bool s :: natV n :: natV d :: rest ∧ RatA (ratV s n d) (l.getD i 0) L
  | [], _, _, _, hi => by simp at hi
  | q :: l, cs, 0, h, _ => by
    obtain ⟨s, n, d, rest, rfl, h1, h2⟩ := h
    exact ⟨s, n, d, rest, rfl, h1⟩
  | q :: l, cs, i + 1, h, hi => by
    obtain ⟨s, n, d, rest, rfl, h1, h2⟩ := h
    obtain ⟨s', n', d', r', h3, h4⟩ := row_at (i := i) h2 (by simpa using hi)
    refine ⟨s', n', d', r', ?_, h4⟩
    have e : ∀ k, (SV.bool s :: natV n :: natV d :: rest).drop (k + 3) = rest.drop k := fun _ => rfl
    rw [show (i + 1) * 3 = i * 3 + 3 by omega, e, h3]
theorem row_append {L : Nat} : ∀ {l : List Rat} {m : List Rat} {cs ds : List SV}, RowC cs l L → RowC ds m L → RowC (cs ++ ds) (l ++ m) L
  | [], _, _, _, h, h2 => by cases h; exact h2
  | q :: l, _, cs, ds, h, h2 => by
    obtain ⟨s, n, d, rest, rfl, h1, h3⟩ := h
    exact ⟨s, n, d, rest ++ ds, rfl, h1, row_append h3 h2⟩
theorem row_snoc {L : Nat} {l : List Rat} {cs : List SV} {s : Bool} {n d : List Nat} {q : Rat} (h : RowC cs l L) (h1 : RatA (ratV s n d) q L) : RowC (cs ++ [.bool s, natV n, natV d]) (l ++ [q]) L :=
  row_append h ⟨s, n, d, [], rfl, h1, rfl⟩
theorem row_mono {L M : Nat} : ∀ {l : List Rat} {cs : List SV}, RowC cs l L → L ≤ M → RowC cs l M
  | [], _, h, _ => h
  | q :: l, cs, h, hL => by
    obtain ⟨s, n, d, rest, rfl, h1, h2⟩ := h
    exact ⟨s, n, d, rest, rfl, RatA_mono h1 hL, row_mono h2 hL⟩
theorem row_sz {L : Nat} (hL : 1 ≤ L) : ∀ {l : List Rat} {cs : List SV}, RowC cs l L → ∀ x ∈ l, szR x L
  | [], _, _, x, hx => by cases hx
  | q :: l, cs, h, x, hx => by
    obtain ⟨s, n, d, rest, rfl, h1, h2⟩ := h
    rcases List.mem_cons.1 hx with rfl | hx
    · exact szR_of h1 hL
    · exact row_sz hL h2 x hx
/-- A normal number's cells. -/
def rvC (q : Rat) : List SV := [.bool (decide (q.num < 0)), natV (lim q.num.natAbs), natV (lim q.den)]
theorem row_rv {L : Nat} {l : List Rat} {cs : List SV} {q : Rat} (h : RowC cs l L) (hq : szR q L) : RowC (cs ++ rvC q) (l ++ [q]) L := row_snoc h (RatA_rv hq)
/-- A row of normal numbers, cell by cell. -/
def rvsC (l : List Rat) : List SV := l.flatMap rvC
theorem rvsC_nil : rvsC [] = [] := rfl
theorem rvsC_snoc (l : List Rat) (q : Rat) : rvsC (l ++ [q]) = rvsC l ++ rvC q := by
  unfold rvsC; rw [List.flatMap_append]; simp
theorem rvsC_len (l : List Rat) : (rvsC l).length = l.length * 3 := by
  induction l with
  | nil => rfl
  | cons x l ih => show (rvC x ++ rvsC l).length = _; rw [List.length_append, ih, List.length_cons]; show 3 + _ = _; omega
theorem rvsC_row {L : Nat} : ∀ l : List Rat, (∀ x ∈ l, szR x L) → RowC (rvsC l) l L
  | [], _ => rfl
  | q :: l, h => ⟨_, _, _, _, rfl, RatA_rv (h q List.mem_cons_self), rvsC_row l fun x hx => h x (List.mem_cons_of_mem _ hx)⟩
theorem rvsC_at {l : List Rat} {i : Nat} (h : i < l.length) : ∃ rest, (rvsC l).drop (i * 3) = .bool (decide ((l.getD i 0).num < 0)) :: natV (lim (l.getD i 0).num.natAbs) :: natV (lim (l.getD i 0).den) :: rest := by
  induction l generalizing i with
  | nil => simp at h
  | cons x l ih =>
    cases i with
    | zero => exact ⟨_, rfl⟩
    | succ i =>
      obtain ⟨r, this⟩ := ih (i := i) (by simpa using h)
      have e : ∀ k, (rvC x ++ rvsC l).drop (k + 3) = (rvsC l).drop k := fun _ => rfl
      refine ⟨r, ?_⟩
      show (rvC x ++ rvsC l).drop _ = _
      rw [show (i + 1) * 3 = i * 3 + 3 by omega, e, this]
      rfl
end Go.Proofs.YtemnjalaincijaaGreat

/- stat: by, Sum, Mean, off, products, Variance, Central of 2, in the evaluator. -/
namespace Go.Proofs.YtemnjalaincijaaGreat
set_option linter.unusedSimpArgs false
set_option linter.unusedVariables false
set_option maxRecDepth 8000
open Go.Ev
/-- A number and an error. -/
abbrev numE (q : Rat) (e : Int) : SV := .tup [rv q, .int .i64 e]
theorem rvs_snoc {l : List Rat} {i : Nat} (h : i < l.length) : rvsC (l.take i) ++ rvC (l.getD i 0) = rvsC (l.take (i + 1)) := by rw [take_snoc l h, rvsC_snoc]
end Go.Proofs.YtemnjalaincijaaGreat

/- A statistic's laws: plain mathematics, no program. -/
namespace Go.Proofs.YtemnjalaincijaaGreat
open Go.Ev
abbrev lenR (l : List Rat) : Rat := ((l.length : Int) : Rat)
theorem lenR_cons (x : Rat) (l : List Rat) : lenR (x :: l) = lenR l + 1 := by
  show (((l.length + 1 : Nat) : Int) : Rat) = _
  rw [Int.natCast_add, Rat.intCast_add]; rfl
theorem lenR_ne {l : List Rat} (h : l ≠ []) : lenR l ≠ 0 := by
  intro h2
  have : (l.length : Int) = 0 := Rat.intCast_inj.1 h2
  exact h (List.length_eq_zero_iff.1 (by omega))
theorem sumR_lin (a b : Rat) (l : List Rat) : sumR (l.map fun x => x * a + b) = sumR l * a + lenR l * b := by
  induction l with
  | nil => rw [List.map_nil, sumR_nil, show lenR [] = 0 from rfl]; grind
  | cons x l ih => rw [List.map_cons, sumR_cons, sumR_cons, lenR_cons, ih]; grind
theorem sumR_scale (c : Rat) (l : List Rat) : sumR (l.map fun x => c * x) = c * sumR l := by
  induction l with
  | nil => rw [List.map_nil, sumR_nil]; grind
  | cons x l ih => rw [List.map_cons, sumR_cons, sumR_cons, ih]; grind
theorem div_cancel' {x n : Rat} (h : n ≠ 0) : x / n * n = x := Rat.div_mul_cancel h
theorem div_uniq {x y n : Rat} (h : n ≠ 0) (e : y * n = x) : x / n = y := by
  rw [← e]; exact Rat.mul_div_cancel h
theorem meanR_lin (a b : Rat) {l : List Rat} (h : l ≠ []) : meanR (l.map fun x => x * a + b) = meanR l * a + b := by
  unfold meanR
  rw [sumR_lin, List.length_map]
  have hn := lenR_ne h
  refine div_uniq hn ?_
  have e := div_cancel' (x := sumR l) hn
  show (sumR l / lenR l * a + b) * lenR l = _
  generalize sumR l / lenR l = m at *
  rw [← e]; grind
theorem offR_lin (a b : Rat) {l : List Rat} (h : l ≠ []) : offR (l.map fun x => x * a + b) = (offR l).map fun x => x * a := by
  unfold offR
  rw [meanR_lin a b h, List.map_map, List.map_map]
  refine List.map_congr_left fun x _ => ?_
  show x * a + b - (meanR l * a + b) = (x - meanR l) * a
  grind
theorem sqR_lin (a b : Rat) {l : List Rat} (h : l ≠ []) : sqR (l.map fun x => x * a + b) = (a * a) * sqR l := by
  unfold sqR
  rw [offR_lin a b h, List.map_map, ← sumR_scale, List.map_map]
  congr 1
  refine List.map_congr_left fun x _ => ?_
  show x * a * (x * a) = a * a * (x * x)
  grind
theorem varR_lin (a b : Rat) {l : List Rat} (h : l ≠ []) : varR (l.map fun x => x * a + b) = (a * a) * varR l := by
  unfold varR
  rw [sqR_lin a b h, List.length_map, Rat.div_def, Rat.div_def, Rat.mul_assoc]
/-- A statistic, its degrees, the error. -/
abbrev Res := Rat × List Int × Int
/-- A row's test. -/
def stuR (l : List Rat) (mu : Rat) : Res :=
  if l.length < 2 then (0, [], 5) else if varR l = 0 then (0, [], 5) else (lenR l * ((meanR l - mu) * (meanR l - mu)) / varR l, [(l.length : Int) - 1], 0)
theorem stuR_moves {a b mu : Rat} {l : List Rat} (ha : a ≠ 0) : stuR (l.map fun x => x * a + b) (mu * a + b) = stuR l mu := by
  unfold stuR lenR
  rw [List.length_map]
  by_cases h : l.length < 2
  · rw [if_pos h, if_pos h]
  · have hl : l ≠ [] := by rintro rfl; simp at h
    rw [if_neg h, if_neg h, varR_lin a b hl, meanR_lin a b hl]
    have haa : a * a ≠ 0 := fun e => by rcases Rat.mul_eq_zero.1 e with h | h <;> exact ha h
    by_cases hv : varR l = 0
    · rw [if_pos hv, if_pos (by rw [hv]; grind)]
    · have hv2 : a * a * varR l ≠ 0 := fun e => (Rat.mul_eq_zero.1 e).elim haa hv
      rw [if_neg hv, if_neg hv2]
      refine Prod.ext ?_ rfl
      refine div_uniq hv2 ?_
      show lenR l * ((meanR l - mu) * (meanR l - mu)) / varR l * (a * a * varR l) = _
      have e := div_cancel' (x := lenR l * ((meanR l - mu) * (meanR l - mu))) hv
      show _ = lenR l * _
      generalize lenR l * ((meanR l - mu) * (meanR l - mu)) / varR l = q at *
      grind
/-- Two rows pooled. -/
def poolR (a b : List Rat) : Res :=
  if a.length = 0 ∨ b.length = 0 ∨ a.length + b.length < 3 then (0, [], 5) else
  if (sqR a + sqR b) / (((a.length : Int) + (b.length : Int) - 2 : Int) : Rat) = 0 then (0, [], 5) else
  ((meanR a - meanR b) * (meanR a - meanR b) / ((sqR a + sqR b) / (((a.length : Int) + (b.length : Int) - 2 : Int) : Rat) * ((((a.length : Int) + (b.length : Int) : Int) : Rat) / (((a.length : Int) * (b.length : Int) : Int) : Rat))), [(a.length : Int) + (b.length : Int) - 2], 0)
theorem poolR_turn (a b : List Rat) : poolR a b = poolR b a := by
  unfold poolR
  rw [show (a.length : Int) + (b.length : Int) = (b.length : Int) + (a.length : Int) by omega, show (a.length : Int) * (b.length : Int) = (b.length : Int) * (a.length : Int) from Int.mul_comm _ _,
    show sqR a + sqR b = sqR b + sqR a by grind, show (meanR a - meanR b) * (meanR a - meanR b) = (meanR b - meanR a) * (meanR b - meanR a) by grind]
  by_cases h : a.length = 0 ∨ b.length = 0 ∨ a.length + b.length < 3
  · rw [if_pos h, if_pos (by omega)]
  · rw [if_neg h, if_neg (show ¬ (b.length = 0 ∨ a.length = 0 ∨ b.length + a.length < 3) by omega)]
/-- Two variances. -/
def fisR (a b : List Rat) : Res :=
  if a.length < 2 ∨ b.length < 2 then (0, [], 5) else if varR a = 0 ∨ varR b = 0 then (0, [], 5) else (varR a / varR b, [(a.length : Int) - 1, (b.length : Int) - 1], 0)
theorem fisR_turn (a b : List Rat) : ((fisR a b).2.2 = 5 ∧ (fisR b a).2.2 = 5) ∨ ((fisR a b).2 = ([(a.length : Int) - 1, (b.length : Int) - 1], 0) ∧ (fisR b a).2 = ([(b.length : Int) - 1, (a.length : Int) - 1], 0) ∧ (fisR a b).1 * (fisR b a).1 = 1) := by
  unfold fisR
  by_cases h : a.length < 2 ∨ b.length < 2
  · rw [if_pos h, if_pos (show b.length < 2 ∨ a.length < 2 by omega)]; exact .inl ⟨rfl, rfl⟩
  · rw [if_neg h, if_neg (show ¬ (b.length < 2 ∨ a.length < 2) by omega)]
    by_cases hv : varR a = 0 ∨ varR b = 0
    · rw [if_pos hv, if_pos (Or.symm hv)]; exact .inl ⟨rfl, rfl⟩
    · rw [if_neg hv, if_neg (fun h => hv (Or.symm h))]
      refine .inr ⟨rfl, rfl, ?_⟩
      show varR a / varR b * (varR b / varR a) = 1
      have ha : varR a ≠ 0 := fun h => hv (.inl h)
      have hb : varR b ≠ 0 := fun h => hv (.inr h)
      have e1 := div_cancel' (x := varR a) hb
      have e2 := div_cancel' (x := varR b) ha
      generalize varR a / varR b = p at *
      generalize varR b / varR a = q at *
      generalize varR a = x at *
      generalize varR b = y at *
      have : (p * q - 1) * x = 0 := by grind
      rcases Rat.mul_eq_zero.1 this with h | h
      · grind
      · exact absurd h ha
end Go.Proofs.YtemnjalaincijaaGreat

/- test: over, square, isBelow, student, paired, spread, pooled, fisher, in the evaluator. -/
namespace Go.Proofs.YtemnjalaincijaaGreat
set_option linter.unusedSimpArgs false
set_option linter.unusedVariables false
set_option maxRecDepth 8000
open Go.Ev
theorem rat_Zero {v : SV} {q : Rat} {L : Nat} (hv : RatA v q L) (hL : 1 ≤ L) (hL2 : L ≤ 16777216) : Go.Ev.Fn CX 55 [v] (.bool (decide (q = 0))) := by
  have hN := rat_Norm hv (by omega)
  obtain ⟨s, n, d, rfl, -⟩ := hv
  by_cases h : q = 0
  · subst h
    rw [decide_eq_true rfl]
    rw [rv_zero] at hN
    refine Go.Ev.Fn.intro (fn := Tryz.f55) (body := (Tryz.f55).body.get!) (by kernel_rfl) (by kernel_rfl) (by kernel_rfl) (fun _ => rfl) (Nat.le_of_ble_eq_true (by kernel_rfl)) ?_; unfold Tryz.f55; simp only [Option.get!_some]
    repeat (first | (simp only [go_sem, Nat.reduceEqDiff, Nat.reduceAdd, Nat.reduceSub, Nat.reduceMul, Nat.reduceLeDiff, Nat.reduceLT, reduceIte, reduceCtorEq, Nat.succ_ne_zero, elemsC, Int.reduceToNat, Nat.reducePow]) | (simp (disch := (first | omega | (simp only [AL, List.length_map]; omega))) only [AR, AL, ifT, ifF, take_all, List.length_cons, List.length_nil, Int.reduceToNat, Int.reducePow, Nat.reducePow]) | (refine wk_intro (by kernel_rfl) ?_) | (refine vf_of (by first | exact hN) ?_))
  · have hp := lim_pos (N := q.num.natAbs) (fun e => h (num_zero.1 (by omega)))
    rw [decide_eq_false h]
    refine Go.Ev.Fn.intro (fn := Tryz.f55) (body := (Tryz.f55).body.get!) (by kernel_rfl) (by kernel_rfl) (by kernel_rfl) (fun _ => rfl) (Nat.le_of_ble_eq_true (by kernel_rfl)) ?_; unfold Tryz.f55; simp only [Option.get!_some]
    repeat (first | (simp only [go_sem, Nat.reduceEqDiff, Nat.reduceAdd, Nat.reduceSub, Nat.reduceMul, Nat.reduceLeDiff, Nat.reduceLT, reduceIte, reduceCtorEq, Nat.succ_ne_zero, elemsC, Int.reduceToNat, Nat.reducePow]) | (simp (disch := (first | omega | (simp only [AL, List.length_map]; omega))) only [AR, AL, ifT, ifF, take_all, List.length_cons, List.length_nil, Int.reduceToNat, Int.reducePow, Nat.reducePow]) | (refine wk_intro (by kernel_rfl) ?_) | (refine vf_of (by first | exact hN) ?_))
theorem ref2_Zero {v : SV} {q : Rat} {L : Nat} (hv : RatA v q L) (hL : 1 ≤ L) (hL2 : L ≤ 16777216) : Go.Ev.Fn CX 66 [v] (.bool (decide (q = 0))) := by
  have hN := ref2_Norm hv (by omega)
  obtain ⟨s, n, d, rfl, -⟩ := hv
  by_cases h : q = 0
  · subst h
    rw [decide_eq_true rfl]
    rw [rv_zero] at hN
    refine Go.Ev.Fn.intro (fn := Tryz.f66) (body := (Tryz.f66).body.get!) (by kernel_rfl) (by kernel_rfl) (by kernel_rfl) (fun _ => rfl) (Nat.le_of_ble_eq_true (by kernel_rfl)) ?_; unfold Tryz.f66; simp only [Option.get!_some]
    repeat (first | (simp only [go_sem, Nat.reduceEqDiff, Nat.reduceAdd, Nat.reduceSub, Nat.reduceMul, Nat.reduceLeDiff, Nat.reduceLT, reduceIte, reduceCtorEq, Nat.succ_ne_zero, elemsC, Int.reduceToNat, Nat.reducePow]) | (simp (disch := (first | omega | (simp only [AL, List.length_map]; omega))) only [AR, AL, ifT, ifF, take_all, List.length_cons, List.length_nil, Int.reduceToNat, Int.reducePow, Nat.reducePow]) | (refine wk_intro (by kernel_rfl) ?_) | (refine vf_of (by first | exact hN) ?_))
  · have hp := lim_pos (N := q.num.natAbs) (fun e => h (num_zero.1 (by omega)))
    rw [decide_eq_false h]
    refine Go.Ev.Fn.intro (fn := Tryz.f66) (body := (Tryz.f66).body.get!) (by kernel_rfl) (by kernel_rfl) (by kernel_rfl) (fun _ => rfl) (Nat.le_of_ble_eq_true (by kernel_rfl)) ?_; unfold Tryz.f66; simp only [Option.get!_some]
    repeat (first | (simp only [go_sem, Nat.reduceEqDiff, Nat.reduceAdd, Nat.reduceSub, Nat.reduceMul, Nat.reduceLeDiff, Nat.reduceLT, reduceIte, reduceCtorEq, Nat.succ_ne_zero, elemsC, Int.reduceToNat, Nat.reducePow]) | (simp (disch := (first | omega | (simp only [AL, List.length_map]; omega))) only [AR, AL, ifT, ifF, take_all, List.length_cons, List.length_nil, Int.reduceToNat, Int.reducePow, Nat.reducePow]) | (refine wk_intro (by kernel_rfl) ?_) | (refine vf_of (by first | exact hN) ?_))
/-- A statistic's result. -/
abbrev resV (r : Res) : SV := .tup [rv r.1, .sl r.2.1.length (r.2.1.map fun i => .int .i64 i), .int .i64 r.2.2]
end Go.Proofs.YtemnjalaincijaaGreat

/- ball.Of, Sub; incg.P, Q at 0; vernierref4.Has, in the evaluator. -/
namespace Go.Proofs.YtemnjalaincijaaGreat
set_option linter.unusedSimpArgs false
set_option linter.unusedVariables false
set_option maxRecDepth 8000
open Go.Ev
/-- A ball's ends. -/
abbrev ballR (a b : Rat) : SV := .agg [.bool (decide (a.num < 0)), natV (lim a.num.natAbs), natV (lim a.den), .bool (decide (b.num < 0)), natV (lim b.num.natAbs), natV (lim b.den)]
theorem ball_Of {v : SV} {q : Rat} {L : Nat} (hv : RatA v q L) (hL : L ≤ 1000000) : Go.Ev.Fn CX 56 [v] (ballR q q) := by
  have n1 := rat_Norm hv (by omega)
  obtain ⟨s, n, d, rfl, -⟩ := hv
  refine Go.Ev.Fn.intro (fn := Tryz.f56) (body := (Tryz.f56).body.get!) (by kernel_rfl) (by kernel_rfl) (by kernel_rfl) (fun _ => rfl) (Nat.le_of_ble_eq_true (by kernel_rfl)) ?_; unfold Tryz.f56; simp only [Option.get!_some]
  repeat (first | (simp only [go_sem, Nat.reduceEqDiff, Nat.reduceAdd, Nat.reduceSub, Nat.reduceMul, Nat.reduceLeDiff, Nat.reduceLT, reduceIte, reduceCtorEq, Nat.succ_ne_zero, elemsC, Int.reduceToNat, Nat.reducePow]) | (simp (disch := (first | omega | (simp only [AL, List.length_map]; omega))) only [AR, AL, ifT, ifF, take_all, List.length_cons, List.length_nil, Int.reduceToNat, Int.reducePow, Nat.reducePow]) | (refine wk_intro (by kernel_rfl) ?_) | (refine vp_draw (id := 1) (l := []) (by kernel_rfl) ?_) | (refine vf_of (by first | exact n1) ?_))
theorem ball_Sub {a b c d : Rat} {L : Nat} (ha : szR a L) (hb : szR b L) (hc : szR c L) (hd : szR d L) (hL : 1 ≤ L) (hL2 : L ≤ 1000000) : Go.Ev.Fn CX 71 [ballR a b, ballR c d] (ballR (a - d) (b - c)) := by
  have s1 := rat_Sub (RatA_rv ha) (RatA_rv hd) hL hL (by omega)
  have s2 := rat_Sub (RatA_rv hb) (RatA_rv hc) hL hL (by omega)
  refine Go.Ev.Fn.intro (fn := Tryz.f71) (body := (Tryz.f71).body.get!) (by kernel_rfl) (by kernel_rfl) (by kernel_rfl) (fun _ => rfl) (Nat.le_of_ble_eq_true (by kernel_rfl)) ?_; unfold Tryz.f71; simp only [Option.get!_some]
  repeat (first | (simp only [go_sem, Nat.reduceEqDiff, Nat.reduceAdd, Nat.reduceSub, Nat.reduceMul, Nat.reduceLeDiff, Nat.reduceLT, reduceIte, reduceCtorEq, Nat.succ_ne_zero, elemsC, Int.reduceToNat, Nat.reducePow]) | (simp (disch := (first | omega | (simp only [AL, List.length_map]; omega))) only [AR, AL, ifT, ifF, take_all, List.length_cons, List.length_nil, Int.reduceToNat, Int.reducePow, Nat.reducePow]) | (refine wk_intro (by kernel_rfl) ?_) | (refine vp_draw (id := 1) (l := []) (by kernel_rfl) ?_) | (refine vf_of (by first | exact s1 | exact s2) ?_))
theorem ref4_Has {a b q : Rat} {v : SV} {L M : Nat} (ha : szR a L) (hb : szR b L) (hv : RatA v q M) (hL : 1 ≤ L) (hM : 1 ≤ M) (h : L + M ≤ 1000000) (h1 : a ≤ q) (h2 : q ≤ b) : Go.Ev.Fn CX 26 [ballR a b, v] (.bool true) := by
  have c1 := ref2_Cmp (RatA_rv ha) hv hL hM (by omega)
  have c2 := ref2_Cmp hv (RatA_rv hb) hM hL (by omega)
  have e1 : decide (cmpR a q ≤ 0) = true := by rw [cmpR_le]; exact decide_eq_true h1
  have e2 : decide (cmpR q b ≤ 0) = true := by rw [cmpR_le]; exact decide_eq_true h2
  obtain ⟨s, n, d, rfl, -⟩ := hv
  refine Go.Ev.Fn.intro (fn := Tryz.f26) (body := (Tryz.f26).body.get!) (by kernel_rfl) (by kernel_rfl) (by kernel_rfl) (fun _ => rfl) (Nat.le_of_ble_eq_true (by kernel_rfl)) ?_; unfold Tryz.f26; simp only [Option.get!_some]
  repeat (first | (simp only [go_sem, Nat.reduceEqDiff, Nat.reduceAdd, Nat.reduceSub, Nat.reduceMul, Nat.reduceLeDiff, Nat.reduceLT, reduceIte, reduceCtorEq, Nat.succ_ne_zero, elemsC, Int.reduceToNat, Nat.reducePow, e1, e2]) | (simp (disch := (first | omega | (simp only [AL, List.length_map]; omega))) only [AR, AL, ifT, ifF, take_all, List.length_cons, List.length_nil, Int.reduceToNat, Int.reducePow, Nat.reducePow, e1, e2]) | (refine wk_intro (by kernel_rfl) ?_) | (refine vf_of (by first | exact c1 | exact c2) ?_))
theorem incg_isOutside {n : Int} (h1 : 1 ≤ n) (h2 : n ≤ 256) : Go.Ev.Fn CX 54 [.int .i64 n, rv 0] (.bool false) := by
  have r0 := rat_Int 0 (by omega)
  have r1 := rat_Int 64 (by omega)
  have c0 := rat_Cmp (RatA_rv (szR_zero (L := 1) (by omega))) (RatA_rv (int_szR (n := 0) (by omega))) (by omega) (by omega) (by omega)
  have c1 := rat_Cmp (RatA_rv (szR_zero (L := 1) (by omega))) (RatA_rv (int_szR (n := 64) (by omega))) (by omega) (by omega) (by omega)
  have e0 : decide (cmpR 0 ((0 : Int) : Rat) < 0) = false := by rw [cmpR_lt]; decide +kernel
  have e1 : decide (cmpR 0 ((64 : Int) : Rat) > 0) = false := by rw [cmpR_gt]; decide +kernel
  refine Go.Ev.Fn.intro (fn := Tryz.f54) (body := (Tryz.f54).body.get!) (by kernel_rfl) (by kernel_rfl) (by kernel_rfl) (fun _ => rfl) (Nat.le_of_ble_eq_true (by kernel_rfl)) ?_; unfold Tryz.f54; simp only [Option.get!_some]
  repeat (first | (simp only [go_sem, Nat.reduceEqDiff, Nat.reduceAdd, Nat.reduceSub, Nat.reduceMul, Nat.reduceLeDiff, Nat.reduceLT, reduceIte, reduceCtorEq, Nat.succ_ne_zero, elemsC, Int.reduceToNat, Nat.reducePow, e0, e1]) | (simp (disch := (first | omega | (simp only [AL, List.length_map]; omega))) only [AR, AL, ifT, ifF, take_all, List.length_cons, List.length_nil, Int.reduceToNat, Int.reducePow, Nat.reducePow, e0, e1]) | (refine wk_intro (by kernel_rfl) ?_) | (refine vp_draw (id := 1) (l := []) (by kernel_rfl) ?_) | (refine vf_of (by first | exact r0 | exact c0 | exact r1 | exact c1) ?_))
theorem incg_P0 {n p : Int} (h1 : 1 ≤ n) (h2 : n ≤ 256) : Go.Ev.Fn CX 16 [.int .i64 n, rv 0, .int .i64 p] (.tup [ballR 0 0, .bool true]) := by
  have n0 := rat_Norm (RatA_rv (szR_zero (L := 1) (by omega))) (by omega)
  have o := incg_isOutside h1 h2
  have z := rat_Zero (RatA_rv (szR_zero (L := 1) (by omega))) (by omega) (by omega)
  rw [decide_eq_true rfl] at z
  have r0 := rat_Int 0 (by omega)
  have b := ball_Of (RatA_rv (int_szR (n := 0) (by omega))) (by omega)
  rw [show ((0 : Int) : Rat) = 0 from rfl] at b r0
  refine Go.Ev.Fn.intro (fn := Tryz.f16) (body := (Tryz.f16).body.get!) (by kernel_rfl) (by kernel_rfl) (by kernel_rfl) (fun _ => rfl) (Nat.le_of_ble_eq_true (by kernel_rfl)) ?_; unfold Tryz.f16; simp only [Option.get!_some]
  repeat (first | (simp only [go_sem, Nat.reduceEqDiff, Nat.reduceAdd, Nat.reduceSub, Nat.reduceMul, Nat.reduceLeDiff, Nat.reduceLT, reduceIte, reduceCtorEq, Nat.succ_ne_zero, elemsC, Int.reduceToNat, Nat.reducePow, Bool.not_false]) | (simp (disch := (first | omega | (simp only [AL, List.length_map]; omega))) only [AR, AL, ifT, ifF, take_all, List.length_cons, List.length_nil, Int.reduceToNat, Int.reducePow, Nat.reducePow, Bool.not_false]) | (refine wk_intro (by kernel_rfl) ?_) | (refine vp_draw (id := 3) (l := []) (by kernel_rfl) ?_) | (refine vp_draw (id := 7) (l := []) (by kernel_rfl) ?_) | (refine vp_draw (id := 8) (l := []) (by kernel_rfl) ?_) | (refine vf_of (by first | exact n0 | exact o | exact z | exact r0 | exact b) ?_))
theorem incg_Q0 {n p : Int} (h1 : 1 ≤ n) (h2 : n ≤ 256) : Go.Ev.Fn CX 20 [.int .i64 n, rv 0, .int .i64 p] (.tup [ballR 1 1, .bool true]) := by
  have b := incg_P0 (p := p) h1 h2
  have r1 := rat_Int 1 (by omega)
  have o := ball_Of (RatA_rv (int_szR (n := 1) (by omega))) (by omega)
  have s := ball_Sub (a := ((1 : Int) : Rat)) (b := ((1 : Int) : Rat)) (c := 0) (d := 0) (L := 2) (int_szR (by omega)) (int_szR (by omega)) (szR_zero (by omega)) (szR_zero (by omega)) (by omega) (by omega)
  rw [show ((1 : Int) : Rat) - 0 = 1 from by show (1 : Rat) - 0 = 1; grind] at s
  refine Go.Ev.Fn.intro (fn := Tryz.f20) (body := (Tryz.f20).body.get!) (by kernel_rfl) (by kernel_rfl) (by kernel_rfl) (fun _ => rfl) (Nat.le_of_ble_eq_true (by kernel_rfl)) ?_; unfold Tryz.f20; simp only [Option.get!_some]
  repeat (first | (simp only [go_sem, Nat.reduceEqDiff, Nat.reduceAdd, Nat.reduceSub, Nat.reduceMul, Nat.reduceLeDiff, Nat.reduceLT, reduceIte, reduceCtorEq, Nat.succ_ne_zero, elemsC, Int.reduceToNat, Nat.reducePow, Bool.not_true]) | (simp (disch := (first | omega | (simp only [AL, List.length_map]; omega))) only [AR, AL, ifT, ifF, take_all, List.length_cons, List.length_nil, Int.reduceToNat, Int.reducePow, Nat.reducePow, Bool.not_true]) | (refine wk_intro (by kernel_rfl) ?_) | (refine vp_draw (id := 4) (l := []) (by kernel_rfl) ?_) | (refine vf_of (by first | exact b | exact r1 | exact o | exact s) ?_))
end Go.Proofs.YtemnjalaincijaaGreat

/- fix: Rat, Unit, Told, Ball, Inverse, in the evaluator. -/
namespace Go.Proofs.YtemnjalaincijaaGreat
set_option linter.unusedSimpArgs false
set_option linter.unusedVariables false
set_option maxRecDepth 8000
open Go.Ev
theorem mul_denE (D : Rat) : D * (D.den : Rat) = (D.num : Rat) := by
  have dn : (0 : Rat) < (D.den : Rat) := by exact_mod_cast Rat.den_pos (self := D)
  have := (Rat.mkRat_eq_div D.num D.den).symm.trans (Rat.mkRat_self D)
  have e := Rat.div_mul_cancel (a := (D.num : Rat)) (b := (D.den : Rat)) (by grind)
  rwa [this] at e
theorem fix_Rat {q : Rat} {w L : Nat} (hz : szR q L) (hL : L ≤ 1000) (hw : w ≤ 10000) : Go.Ev.Fn CX 128 [rv q, .int .i64 (w : Int)] (spanV (q.num.natAbs * 2 ^ w / q.den) (q.num.natAbs * 2 ^ w / q.den + 1)) := by
  obtain ⟨z1, z2⟩ := hz
  have o := fix_Of (n := q.num.natAbs) (d := q.den) (w := w) (by omega) (by omega) q.den_nz (by omega)
  generalize q.num.natAbs * 2 ^ w / q.den = x at *
  refine Go.Ev.Fn.intro (fn := Tryz.f128) (body := (Tryz.f128).body.get!) (by kernel_rfl) (by kernel_rfl) (by kernel_rfl) (fun _ => rfl) (Nat.le_of_ble_eq_true (by kernel_rfl)) ?_; unfold Tryz.f128; simp only [Option.get!_some]
  repeat (first | (simp only [go_sem, Nat.reduceEqDiff, Nat.reduceAdd, Nat.reduceSub, Nat.reduceMul, Nat.reduceLeDiff, Nat.reduceLT, reduceIte, reduceCtorEq, Nat.succ_ne_zero, elemsC, Int.reduceToNat, Nat.reducePow]) | (simp (disch := (first | omega | (simp only [AL, List.length_map]; omega))) only [AR, AL, ifT, ifF, take_all, List.length_cons, List.length_nil, Int.reduceToNat, Int.reducePow, Nat.reducePow]) | (refine wk_intro (by kernel_rfl) ?_) | (refine vf_of (by first | exact o) ?_))
theorem fix_Unit {w : Nat} (hw : w ≤ 1000000000) : Go.Ev.Fn CX 124 [.int .i64 (w : Int)] (spanV (2 ^ w) (2 ^ w + 1)) := by
  have o := fix_One
  have l1 := lim_len1
  have s := fix_shl (a := 1) (m := w) (by omega) (by omega)
  have l := lim_len_shl (a := 1) (n := w)
  rw [Nat.one_mul] at s l
  have n1 := fix_Next (a := 2 ^ w) (by omega)
  generalize 2 ^ w = P at *
  refine Go.Ev.Fn.intro (fn := Tryz.f124) (body := (Tryz.f124).body.get!) (by kernel_rfl) (by kernel_rfl) (by kernel_rfl) (fun _ => rfl) (Nat.le_of_ble_eq_true (by kernel_rfl)) ?_; unfold Tryz.f124; simp only [Option.get!_some]
  repeat (first | (simp only [go_sem, Nat.reduceEqDiff, Nat.reduceAdd, Nat.reduceSub, Nat.reduceMul, Nat.reduceLeDiff, Nat.reduceLT, reduceIte, reduceCtorEq, Nat.succ_ne_zero, elemsC, Int.reduceToNat, Nat.reducePow]) | (simp (disch := (first | omega | (simp only [AL, List.length_map]; omega))) only [AR, AL, ifT, ifF, take_all, List.length_cons, List.length_nil, Int.reduceToNat, Int.reducePow, Nat.reducePow]) | (refine wk_intro (by kernel_rfl) ?_) | (refine vf_of (by first | exact o | exact s | exact n1) ?_))
theorem fix_Told {a b w p : Nat} (ha : (lim a).length ≤ 10000) (hb : (lim b).length ≤ 10000) (hp : p < w) (hw : w ≤ 10000) : Go.Ev.Fn CX 63 [spanV a b, .int .i64 (w : Int), .int .i64 (p : Int)] (ballR (mkRat ((a / 2 ^ (w - p) : Nat) : Int) (2 ^ p)) (mkRat ((b / 2 ^ (w - p) + 1 : Nat) : Int) (2 ^ p))) := by
  have o := fix_One
  have l1 := lim_len1
  have sh := fix_shl (a := 1) (m := p) (by omega) (by omega)
  have lp := lim_len_shl (a := 1) (n := p)
  rw [Nat.one_mul] at sh lp
  have e0 : (p : Int) - (w : Int) = -((w - p : Nat) : Int) := by omega
  have s1 := fix_shr (a := a) (m := w - p) (by omega) (by omega) (by omega)
  have s2 := fix_shr (a := b) (m := w - p) (by omega) (by omega) (by omega)
  have l3 := lim_len_mono (Nat.div_le_self a (2 ^ (w - p)))
  have l4 := lim_len_mono (Nat.div_le_self b (2 ^ (w - p)))
  have n1 := fix_Next (a := b / 2 ^ (w - p)) (by omega)
  have l5 := lim_len_add (a := b / 2 ^ (w - p)) (b := 1) (L := 10000) (by omega) (by omega)
  have r1 := rat_OfL (s := false) (n := a / 2 ^ (w - p)) (d := 2 ^ p) (by omega) (by omega)
  have r2 := rat_OfL (s := false) (n := b / 2 ^ (w - p) + 1) (d := 2 ^ p) (by omega) (by omega)
  rw [show sgn false (a / 2 ^ (w - p)) = ((a / 2 ^ (w - p) : Nat) : Int) from rfl] at r1
  rw [show sgn false (b / 2 ^ (w - p) + 1) = ((b / 2 ^ (w - p) + 1 : Nat) : Int) from rfl] at r2
  generalize mkRat ((a / 2 ^ (w - p) : Nat) : Int) (2 ^ p) = q1 at *
  generalize mkRat ((b / 2 ^ (w - p) + 1 : Nat) : Int) (2 ^ p) = q2 at *
  generalize b / 2 ^ (w - p) + 1 = y' at *
  generalize a / 2 ^ (w - p) = x at *
  generalize b / 2 ^ (w - p) = y at *
  generalize 2 ^ p = P at *
  generalize hk : w - p = k at *
  refine Go.Ev.Fn.intro (fn := Tryz.f63) (body := (Tryz.f63).body.get!) (by kernel_rfl) (by kernel_rfl) (by kernel_rfl) (fun _ => rfl) (Nat.le_of_ble_eq_true (by kernel_rfl)) ?_; unfold Tryz.f63; simp only [Option.get!_some]
  repeat (first | (simp only [go_sem, Nat.reduceEqDiff, Nat.reduceAdd, Nat.reduceSub, Nat.reduceMul, Nat.reduceLeDiff, Nat.reduceLT, reduceIte, reduceCtorEq, Nat.succ_ne_zero, elemsC, Int.reduceToNat, Nat.reducePow, e0]) | (simp (disch := (first | omega | (simp only [AL, List.length_map]; omega))) only [AR, AL, ifT, ifF, take_all, List.length_cons, List.length_nil, Int.reduceToNat, Int.reducePow, Nat.reducePow, e0]) | (refine wk_intro (by kernel_rfl) ?_) | (refine vp_draw (id := 2) (l := [12, 16, 7, 20, 24, 25, 7]) (by kernel_rfl) ?_) | (refine vf_of (by first | exact o | exact sh | exact s1 | exact r1 | exact s2 | exact n1 | exact r2) ?_))
/-- A number's whole part in units. -/
abbrev unN (q : Rat) (w : Nat) : Nat := q.num.natAbs * 2 ^ w / q.den
theorem fix_Ball {lo hi : Rat} {w L : Nat} (h1 : szR lo L) (h2 : szR hi L) (hL : L ≤ 1000) (hw : w ≤ 10000) : Go.Ev.Fn CX 64 [ballR lo hi, .int .i64 (w : Int)] (spanV (unN lo w) (unN hi w + 1)) := by
  have r1 : Go.Ev.Fn CX 128 [rv lo, .int .i64 (w : Int)] (spanV (unN lo w) (unN lo w + 1)) := fix_Rat h1 hL hw
  have r2 : Go.Ev.Fn CX 128 [rv hi, .int .i64 (w : Int)] (spanV (unN hi w) (unN hi w + 1)) := fix_Rat h2 hL hw
  generalize unN lo w = x at *
  generalize unN hi w = y at *
  refine Go.Ev.Fn.intro (fn := Tryz.f64) (body := (Tryz.f64).body.get!) (by kernel_rfl) (by kernel_rfl) (by kernel_rfl) (fun _ => rfl) (Nat.le_of_ble_eq_true (by kernel_rfl)) ?_; unfold Tryz.f64; simp only [Option.get!_some]
  repeat (first | (simp only [go_sem, Nat.reduceEqDiff, Nat.reduceAdd, Nat.reduceSub, Nat.reduceMul, Nat.reduceLeDiff, Nat.reduceLT, reduceIte, reduceCtorEq, Nat.succ_ne_zero, elemsC, Int.reduceToNat, Nat.reducePow]) | (simp (disch := (first | omega | (simp only [AL, List.length_map]; omega))) only [AR, AL, ifT, ifF, take_all, List.length_cons, List.length_nil, Int.reduceToNat, Int.reducePow, Nat.reducePow]) | (refine wk_intro (by kernel_rfl) ?_) | (refine vp_draw (id := 1) (l := []) (by kernel_rfl) ?_) | (refine vf_of (by first | exact r1 | exact r2) ?_))
theorem fix_Inverse {a b w : Nat} (h1 : (lim a).length ≤ 50000000) (h2 : (lim b).length ≤ 50000000) (ha : 0 < a) (hb : 0 < b) (hw : w ≤ 400000000) : Go.Ev.Fn CX 150 [spanV a b, .int .i64 (w : Int)] (spanV (2 ^ (2 * w) / b) (2 ^ (2 * w) / a + 1)) := by
  have o := fix_One
  have l1 := lim_len1
  have s := fix_shl (a := 1) (m := 2 * w) (by omega) (by omega)
  have l := lim_len_shl (a := 1) (n := 2 * w)
  rw [Nat.one_mul] at s l
  have o1 := fix_Over' (N := 2 ^ (2 * w)) (D := b) (by omega) (by omega) (by omega)
  have o2 := fix_Over' (N := 2 ^ (2 * w)) (D := a) (by omega) (by omega) (by omega)
  have l2 := lim_len_mono (Nat.div_le_self (2 ^ (2 * w)) a)
  have n1 := fix_Next (a := 2 ^ (2 * w) / a) (by omega)
  rw [show ((2 * w : Nat) : Int) = 2 * (w : Int) by omega] at s
  generalize 2 ^ (2 * w) / b = x at *
  generalize 2 ^ (2 * w) / a + 1 = y' at *
  generalize 2 ^ (2 * w) / a = y at *
  generalize 2 ^ (2 * w) = P at *
  refine Go.Ev.Fn.intro (fn := Tryz.f150) (body := (Tryz.f150).body.get!) (by kernel_rfl) (by kernel_rfl) (by kernel_rfl) (fun _ => rfl) (Nat.le_of_ble_eq_true (by kernel_rfl)) ?_; unfold Tryz.f150; simp only [Option.get!_some]
  repeat (first | (simp only [go_sem, Nat.reduceEqDiff, Nat.reduceAdd, Nat.reduceSub, Nat.reduceMul, Nat.reduceLeDiff, Nat.reduceLT, reduceIte, reduceCtorEq, Nat.succ_ne_zero, elemsC, Int.reduceToNat, Nat.reducePow]) | (simp (disch := (first | omega | (simp only [AL, List.length_map]; omega))) only [AR, AL, ifT, ifF, take_all, List.length_cons, List.length_nil, Int.reduceToNat, Int.reducePow, Nat.reducePow]) | (refine wk_intro (by kernel_rfl) ?_) | (refine vp_draw (id := 2) (l := [5, 12, 5, 16, 17]) (by kernel_rfl) ?_) | (refine vf_of (by first | exact o | exact s | exact o1 | exact o2 | exact n1) ?_))
theorem enc_inv {a b w : Nat} {q : Rat} (ha : 0 < a) (h : Enc w a b q) : Enc w (2 ^ (2 * w) / b) (2 ^ (2 * w) / a + 1) (1 / q) ∧ 0 < q := by
  obtain ⟨h1, h2⟩ := h
  have P := p2_pos w
  have aR : (0 : Rat) < (a : Rat) := by exact_mod_cast ha
  have qP : 0 < q * p2 w := by grind
  have q0 : 0 < q := by
    rcases Rat.le_total (a := q) (b := 0) with g | g
    · have := Rat.mul_le_mul_of_nonneg_right g (show 0 ≤ p2 w by grind)
      grind
    · by_cases e : q = 0
      · rw [e] at qP; grind
      · grind
  have bR : (0 : Rat) < (b : Rat) := by grind
  have hb : 0 < b := by exact_mod_cast bR
  have e0 : ((2 ^ (2 * w) : Nat) : Rat) = p2 w * p2 w := by
    show _ = ((2 ^ w : Nat) : Rat) * ((2 ^ w : Nat) : Rat)
    have : ((2 ^ w : Nat) : Rat) * ((2 ^ w : Nat) : Rat) = ((2 ^ w * 2 ^ w : Nat) : Rat) := by exact_mod_cast rfl
    rw [this, ← Nat.pow_add]
    congr 2
    omega
  have f := floor_le (a := 2 ^ (2 * w)) (d := b)
  have g := le_floor (a := 2 ^ (2 * w)) (d := a) ha
  rw [e0] at f g
  have iq : 1 / q * q = 1 := Rat.div_mul_cancel (by grind)
  have i0 : 0 ≤ 1 / q := by
    rcases Rat.le_total (a := 0) (b := 1 / q) with k | k
    · exact k
    · have := Rat.mul_le_mul_of_nonneg_right k (show 0 ≤ q by grind)
      grind
  generalize 1 / q = i at *
  refine ⟨⟨le_by bR ?_, le_by aR ?_⟩, q0⟩
  · -- x * b <= P * P = i * q * P * P <= i P * b
    have k1 := Rat.mul_le_mul_of_nonneg_left h2 (show 0 ≤ i * p2 w from Rat.mul_nonneg i0 (by grind))
    have k2 : i * p2 w * (q * p2 w) = p2 w * p2 w := by
      have : i * p2 w * (q * p2 w) = i * q * (p2 w * p2 w) := by grind
      rw [this, iq, Rat.one_mul]
    grind
  · have k1 := Rat.mul_le_mul_of_nonneg_left h1 (show 0 ≤ i * p2 w from Rat.mul_nonneg i0 (by grind))
    have k2 : i * p2 w * (q * p2 w) = p2 w * p2 w := by
      have : i * p2 w * (q * p2 w) = i * q * (p2 w * p2 w) := by grind
      rw [this, iq, Rat.one_mul]
    grind
theorem unN_le {q : Rat} (h0 : 0 ≤ q) (w : Nat) : ((unN q w : Nat) : Rat) ≤ q * p2 w ∧ q * p2 w ≤ ((unN q w + 1 : Nat) : Rat) := by
  have D : (0 : Rat) < (q.den : Rat) := by exact_mod_cast q.den_pos
  have f := floor_le (a := q.num.natAbs * 2 ^ w) (d := q.den)
  have g := le_floor (a := q.num.natAbs * 2 ^ w) (d := q.den) q.den_pos
  have e : ((q.num.natAbs * 2 ^ w : Nat) : Rat) = q * p2 w * (q.den : Rat) := by
    have c1 : ((q.num.natAbs * 2 ^ w : Nat) : Rat) = ((q.num.natAbs : Nat) : Rat) * p2 w := by exact_mod_cast rfl
    have h := mul_denE q
    have h2 : ((q.num.natAbs : Nat) : Rat) = (q.num : Rat) := by
      have : (q.num.natAbs : Int) = q.num := Int.natAbs_of_nonneg (Rat.num_nonneg.2 h0)
      rw [← this]; rfl
    rw [c1, h2, ← h]
    grind
  rw [e] at f g
  exact ⟨le_by D f, le_by D g⟩
/-- What lies in a ball lies in its span. -/
theorem ball_enc {lo hi q : Rat} (h0 : 0 ≤ lo) (h1 : lo ≤ q) (h2 : q ≤ hi) (w : Nat) : Enc w (unN lo w) (unN hi w + 1) q := by
  have P := p2_pos w
  have a := (unN_le h0 w).1
  have b := (unN_le (show 0 ≤ hi by grind) w).2
  have c := Rat.mul_le_mul_of_nonneg_right h1 (show 0 ≤ p2 w by grind)
  have d := Rat.mul_le_mul_of_nonneg_right h2 (show 0 ≤ p2 w by grind)
  exact ⟨Rat.le_trans a c, Rat.le_trans d b⟩
end Go.Proofs.YtemnjalaincijaaGreat

/- e's powers: when their digits are certain. Plain mathematics. -/
namespace Go.Proofs.YtemnjalaincijaaGreat
open Go.Ev
set_option linter.unusedVariables false
theorem E_three {y : Rat} (h0 : 0 ≤ y) (h1 : y ≤ 1) (L : Nat) : Ex.E y L ≤ 3 := by
  have t := Ex.E_tail_le (L := L) h0 (N := 1) (show y + y ≤ ((1 + 1 : Nat) : Rat) by have : ((1 + 1 : Nat) : Rat) = 2 := rfl; rw [this]; grind)
  have e1 : Ex.E y 1 = 1 := by show (0 : Rat) + 1 = 1; decide +kernel
  have s := Ex.tm_succ y 0
  have e2 : ((0 + 1 : Nat) : Rat) = 1 := rfl
  have e3 : Ex.tm y 0 = 1 := rfl
  rw [e2, e3] at s
  rw [e1] at t
  grind
theorem pow_mono {a b : Rat} (h0 : 0 ≤ a) (h : a ≤ b) : ∀ n : Nat, a ^ n ≤ b ^ n
  | 0 => by rw [Rat.pow_zero, Rat.pow_zero]; exact Rat.le_refl
  | n + 1 => by
    rw [Rat.pow_succ, Rat.pow_succ]
    exact Rat.le_trans (Rat.mul_le_mul_of_nonneg_right (pow_mono h0 h n) h0) (Rat.mul_le_mul_of_nonneg_left h (Ex.pow_nn (show 0 ≤ b by grind) n))
theorem E_big {x : Rat} (h0 : 0 ≤ x) (h1 : x ≤ 64) (L : Nat) : Ex.E x L ≤ Ex.t2 102 := by
  rcases Nat.eq_zero_or_pos L with e | e
  · subst e; exact Rat.le_of_lt (Ex.t2_pos 102)
  · have hq : (1 / 64 : Rat) * 64 = 1 := by decide +kernel
    have q0 : (0 : Rat) ≤ 1 / 64 := by decide +kernel
    have y0 : 0 ≤ 1 / 64 * x := Rat.mul_nonneg q0 h0
    have y1 : 1 / 64 * x ≤ 1 := by
      have := Rat.mul_le_mul_of_nonneg_left h1 q0
      rwa [hq] at this
    have p := Ex.E_pow_ge y0 e 64
    have ex : ((64 : Nat) : Rat) * (1 / 64 * x) = x := by
      have : ((64 : Nat) : Rat) = 64 := rfl
      rw [this]; generalize (1 / 64 : Rat) = q at *; grind
    rw [ex] at p
    have t : (3 : Rat) ^ 64 ≤ Ex.t2 102 := by decide +kernel
    exact Rat.le_trans p (Rat.le_trans (pow_mono (Ex.E_nn y0 L) (E_three y0 y1 L) 64) t)
/-- All cut rows from one on are at least 1. -/
theorem E_one {x : Rat} (h0 : 0 ≤ x) {L : Nat} (h : 1 ≤ L) : 1 ≤ Ex.E x L := by
  have m := Ex.E_mono h0 h
  have e1 : Ex.E x 1 = 1 := by show (0 : Rat) + 1 = 1; decide +kernel
  rw [e1] at m; exact m
/-- The power of a positive number, as it is reckoned. -/
theorem near_ok {n d w g c : Nat} (hg : g = 32794) (hc : c = 32768) (hd : 0 < d) (h : n ≤ 64 * d) (hw : 160 ≤ w) :
    ∃ A B : Nat, eRow w (n * 2 ^ w / (d * 2 ^ 14)) (w / 7 + 3) 1 (2 ^ w) (2 ^ w + 1) (2 ^ w) (2 ^ w + 1) = some (A, B) ∧ A ≤ B ∧ 2 ^ w ≤ A ∧ B < 2 ^ (w + 2) ∧ 2 ^ w ≤ (sqs w 14 A B).1 ∧ (sqs w 14 A B).1 ≤ (sqs w 14 A B).2 ∧ (sqs w 14 A B).2 < 2 ^ (w + c) ∧
      (sqs w 14 A B).2 ≤ (sqs w 14 A B).1 + w * 2 ^ g ∧ ∀ x : Rat, x * (d : Rat) = (n : Rat) → ∃ s, ∀ L, s ≤ L → Enc w (sqs w 14 A B).1 (sqs w 14 A B).2 (Ex.E x L) := by
  obtain ⟨Y, hY⟩ : ∃ Y : Nat, Y = n * 2 ^ w / (d * 2 ^ 14) := ⟨_, rfl⟩
  rw [← hY]
  have dp : 0 < d * 2 ^ 14 := by omega
  have P : 0 < 2 ^ w := Nat.pow_pos (by omega)
  have e8 : 2 ^ w = 2 ^ (w - 8) * 256 := by rw [show (256 : Nat) = 2 ^ 8 from rfl, ← Nat.pow_add]; congr 1; omega
  have e7 : 2 ^ (w - 7) = 2 ^ (w - 8) * 2 := by rw [← Nat.pow_succ]; congr 1; omega
  have p8 : 0 < 2 ^ (w - 8) := Nat.pow_pos (by omega)
  have Yle : Y ≤ 2 ^ (w - 8) := by
    rw [hY]
    refine (Nat.div_le_iff_le_mul dp).2 ?_
    have m := Nat.mul_le_mul_right (2 ^ w) h
    have k : 64 * d * 2 ^ w = 2 ^ (w - 8) * (d * 2 ^ 14) := by
      rw [e8]; generalize 2 ^ (w - 8) = z; rw [show (2 : Nat) ^ 14 = 16384 from rfl]; grind
    omega
  have hY1 : Y + 1 ≤ 2 ^ (w - 7) := by omega
  obtain ⟨A, B, s, r1, r2, r3, r4, r5, r6, r7⟩ := eRow_end (w := w) (Y := Y) (by omega) hY1 (w / 7 + 1) (w / 7 + 3) 1 (2 ^ w) (2 ^ w + 1) (2 ^ w) (2 ^ w + 1) (eInv_0 w) (by
    have : 2 ^ w ≤ 2 ^ (7 * (w / 7 + 1)) := Nat.pow_le_pow_right (by omega) (by omega)
    omega) (by omega) (by omega)
  have lw : w < 2 ^ w := Nat.lt_two_pow_self
  have e1 : 2 ^ (w + 1) = 2 ^ w * 2 := Nat.pow_succ _ _
  have e2 : 2 ^ (w + 2) = 2 ^ w * 4 := Nat.pow_add _ _ _
  obtain ⟨q1, q2, q3, q4⟩ := sqs_ok 14 A B 2 w r4 r5 (by omega) (by omega) (by omega)
  rw [show 2 * (2 ^ 14 - 1) + 2 * 14 = g by omega] at q4
  rw [show 2 * 2 ^ 14 = c by omega] at q3
  refine ⟨A, B, r1, r5, r4, by omega, q1, q2, q3, q4, fun x hx => ?_⟩
  have dR : (0 : Rat) < (d : Rat) := by exact_mod_cast hd
  obtain ⟨j, hj⟩ : ∃ j : Nat, j = 2 ^ 14 := ⟨_, rfl⟩
  have jR : (0 : Rat) < (j : Rat) := by exact_mod_cast (by omega : 0 < j)
  obtain ⟨y, hy⟩ : ∃ y : Rat, y = x / (j : Rat) := ⟨_, rfl⟩
  have jy : (j : Rat) * y = x := by rw [hy]; exact Ex.mul_div _ _ (by grind)
  have dj : (d : Rat) * (j : Rat) = ((d * 2 ^ 14 : Nat) : Rat) := by rw [← hj]; exact_mod_cast rfl
  have yd : y * ((d * 2 ^ 14 : Nat) : Rat) = (n : Rat) := by rw [← dj, ← hx, ← jy]; grind
  have dpR : (0 : Rat) < ((d * 2 ^ 14 : Nat) : Rat) := by exact_mod_cast dp
  have PR := p2_pos w
  have en : Enc w Y (Y + 1) y := by
    have f := floor_le (a := n * 2 ^ w) (d := d * 2 ^ 14)
    have g := le_floor (a := n * 2 ^ w) (d := d * 2 ^ 14) dp
    rw [← hY] at f g
    have k : ((n * 2 ^ w : Nat) : Rat) = y * p2 w * ((d * 2 ^ 14 : Nat) : Rat) := by
      have : ((n * 2 ^ w : Nat) : Rat) = (n : Rat) * p2 w := by exact_mod_cast rfl
      rw [this, ← yd]; grind
    rw [k] at f g
    exact ⟨le_by dpR f, le_by dpR g⟩
  have y0 := enc_nonneg en
  have y1 : y + y ≤ 1 := by
    refine le_by dpR ?_
    rw [Rat.add_mul, yd, Rat.one_mul]
    have : n + n ≤ d * 2 ^ 14 := by omega
    have t : ((n + n : Nat) : Rat) ≤ ((d * 2 ^ 14 : Nat) : Rat) := by exact_mod_cast this
    have e : ((n + n : Nat) : Rat) = (n : Rat) + (n : Rat) := by exact_mod_cast rfl
    rw [e] at t; exact t
  have one : Enc w (2 ^ w) (2 ^ w + 1) 1 := by
    refine ⟨by rw [Rat.one_mul]; exact Rat.le_refl, ?_⟩
    rw [Rat.one_mul]
    exact_mod_cast Nat.le_succ (2 ^ w)
  have E1 : Ex.E y 1 = 1 := by show (0 : Rat) + 1 = 1; decide +kernel
  obtain ⟨s1, hs⟩ := eRow_enc en y1 (w / 7 + 3) 0 _ _ _ _ A B r1 one (by rw [E1]; exact one)
  refine ⟨j * (s1 + 1) + 1, fun L hL => ?_⟩
  have k1 : s1 + 1 ≤ j * (s1 + 1) := Nat.le_mul_of_pos_left _ (by omega)
  have a1 := (sqs_enc 14 A B _ (hs (s1 + 1) (by omega))).1
  have a2 := (sqs_enc 14 A B _ (hs L (by omega))).2
  rw [← hj] at a1 a2
  have u1 := Ex.E_pow_le y0 (s1 + 1) j
  have u2 := Ex.E_pow_ge y0 (show 0 < L by omega) j
  rw [jy] at u1 u2
  have x0 : 0 ≤ x := by rw [← jy]; exact Rat.mul_nonneg (Rat.le_of_lt jR) y0
  have m := Ex.E_mono x0 hL
  exact ⟨Rat.le_trans a1 (Rat.mul_le_mul_of_nonneg_right (Rat.le_trans u1 m) (Rat.le_of_lt PR)), Rat.le_trans (Rat.mul_le_mul_of_nonneg_right u2 (Rat.le_of_lt PR)) a2⟩
/-- Where digits are not certain, a rational of few digits lies within. -/
theorem cert_or {lo hi w p : Nat} (h : lo < hi) (hc : lo / 2 ^ (w - p) ≠ (hi - 1) / 2 ^ (w - p)) : ∃ u : Nat, 0 < u ∧ lo ≤ u * 2 ^ (w - p) ∧ u * 2 ^ (w - p) ≤ hi - 1 := by
  have P : 0 < 2 ^ (w - p) := Nat.pow_pos (by omega)
  have m : lo / 2 ^ (w - p) ≤ (hi - 1) / 2 ^ (w - p) := Nat.div_le_div_right (by omega)
  have lt := Nat.lt_of_le_of_ne m hc
  refine ⟨(hi - 1) / 2 ^ (w - p), Nat.lt_of_le_of_lt (Nat.zero_le _) lt, ?_, Nat.div_mul_le_self _ _⟩
  have k := Nat.lt_mul_div_succ lo P
  have k2 : 2 ^ (w - p) * (lo / 2 ^ (w - p) + 1) ≤ 2 ^ (w - p) * ((hi - 1) / 2 ^ (w - p)) := Nat.mul_le_mul_left _ lt
  rw [Nat.mul_comm]
  exact Nat.le_of_lt (Nat.lt_of_lt_of_le k k2)
theorem dist_bd {w lo hi G : Nat} {q r : Rat} (h1 : Enc w lo hi q) (h2 : (lo : Rat) ≤ r * p2 w) (h3 : r * p2 w ≤ (hi : Rat)) (hG : hi ≤ lo + G) : Ex.Bdd ((q - r) * p2 w) (G : Rat) := by
  obtain ⟨a, b⟩ := h1
  have k : (hi : Rat) ≤ ((lo + G : Nat) : Rat) := by exact_mod_cast hG
  have e : ((lo + G : Nat) : Rat) = (lo : Rat) + (G : Rat) := by exact_mod_cast rfl
  rw [e] at k
  rw [show (q - r) * p2 w = q * p2 w - r * p2 w by grind]
  generalize q * p2 w = x at *
  generalize r * p2 w = y at *
  constructor <;> grind
theorem bd_less {z : Rat} {w W : Nat} {G : Rat} (h : Ex.Bdd (z * p2 w) G) (hG : G * Ex.t2 W ≤ p2 w) : Ex.Bdd (z * Ex.t2 W) 1 := by
  have P := p2_pos w
  have T := Ex.t2_pos W
  obtain ⟨a, b⟩ := h
  have m1 := Rat.mul_le_mul_of_nonneg_right a (Rat.le_of_lt T)
  have m2 := Rat.mul_le_mul_of_nonneg_right b (Rat.le_of_lt T)
  have e : z * p2 w * Ex.t2 W = z * Ex.t2 W * p2 w := by grind
  rw [e] at m1 m2
  constructor
  · refine le_by P ?_
    generalize z * Ex.t2 W * p2 w = y at *
    have : -G * Ex.t2 W = -(G * Ex.t2 W) := by grind
    rw [this] at m1
    grind
  · refine le_by P ?_
    generalize z * Ex.t2 W * p2 w = y at *
    grind
theorem cast_p2 (u w p : Nat) (h : p ≤ w) : ((u * 2 ^ (w - p) : Nat) : Rat) * p2 p = (u : Rat) * p2 w := by
  have e : 2 ^ w = 2 ^ (w - p) * 2 ^ p := by rw [← Nat.pow_add]; congr 1; omega
  have e2 : p2 w = p2 (w - p) * p2 p := by
    show ((2 ^ w : Nat) : Rat) = _
    rw [e]; exact_mod_cast rfl
  have e3 : ((u * 2 ^ (w - p) : Nat) : Rat) = (u : Rat) * p2 (w - p) := by exact_mod_cast rfl
  rw [e2, e3, Rat.mul_assoc]
theorem size_W {w g r W : Nat} (hW : W = 70000000) (hg : g + r ≤ 40000) (hw : 71000000 ≤ w) (hw2 : w ≤ 2 ^ 40) : ((w * 2 ^ g * 2 ^ r : Nat) : Rat) * Ex.t2 W ≤ p2 w := by
  have h : w * 2 ^ g * 2 ^ r * 2 ^ W ≤ 2 ^ w := by
    refine Nat.le_trans (Nat.mul_le_mul_right _ (Nat.mul_le_mul_right _ (Nat.mul_le_mul_right _ hw2))) ?_
    rw [← Nat.pow_add, ← Nat.pow_add, ← Nat.pow_add]
    exact Nat.pow_le_pow_right (by omega) (by omega)
  have e : ((w * 2 ^ g * 2 ^ r * 2 ^ W : Nat) : Rat) = ((w * 2 ^ g * 2 ^ r : Nat) : Rat) * Ex.t2 W := Ex.castmul _ _
  rw [← e]
  exact Ex.castle h
theorem near_le {e al T : Rat} (d : -1 ≤ (e - al) * T) (T1 : 1 ≤ T) : al ≤ e + 1 := by
  refine Rat.not_lt.1 fun h => ?_
  have m := Rat.mul_le_mul_of_nonneg_left T1 (show 0 ≤ al - e by grind)
  grind
theorem le_two {e al M : Rat} (h1 : al ≤ e + 1) (h2 : e ≤ M) (h3 : 1 ≤ M) : al ≤ M + M := by grind
/-- Of a positive number. -/
theorem cert_pos {a b lo hi w p g s : Nat} {x : Rat} (ha : 0 < a) (hb : 0 < b) (hb2 : b ≤ 2 ^ 240) (hx : x * (b : Rat) = (a : Rat)) (hx2 : x ≤ 64) (hp : p ≤ 512) (hg : g ≤ 39000) (h : lo < hi) (hG : hi ≤ lo + w * 2 ^ g)
    (hE : ∀ L, s ≤ L → Enc w lo hi (Ex.E x L)) (hw : 71000000 ≤ w) (hw2 : w ≤ 2 ^ 40) : lo / 2 ^ (w - p) = (hi - 1) / 2 ^ (w - p) := by
  refine Classical.byContradiction fun hc => ?_
  obtain ⟨u, u0, u1, u2⟩ := cert_or h hc
  obtain ⟨W, hW⟩ : ∃ k : Nat, k = 70000000 := ⟨_, rfl⟩
  obtain ⟨sv, hsv⟩ : ∃ k : Nat, k = 520 := ⟨_, rfl⟩
  have Pp := p2_pos p
  have P := p2_pos w
  obtain ⟨al, hal⟩ : ∃ r : Rat, r = (u : Rat) / p2 p := ⟨_, rfl⟩
  have ap : al * p2 p = (u : Rat) := by rw [hal]; exact Rat.div_mul_cancel (by grind)
  have uR : (0 : Rat) < (u : Rat) := Ex.castlt u0
  have a0 : 0 < al := by
    rw [hal, Rat.div_def]; exact Rat.mul_pos uR (Rat.inv_pos.2 Pp)
  have c := cast_p2 u w p (by omega)
  have ku : al * p2 w = ((u * 2 ^ (w - p) : Nat) : Rat) := by
    refine Ex.cancel_l (c := p2 p) (by grind) ?_
    rw [Rat.mul_comm, Rat.mul_comm (p2 p), c, ← ap]; grind
  have x0 : 0 ≤ x := by
    have bp : (0 : Rat) < (b : Rat) := Ex.castlt hb
    refine le_by bp ?_
    rw [hx, Rat.zero_mul]; exact nat_nonneg a
  have l1 : (lo : Rat) ≤ al * p2 w := by rw [ku]; exact Ex.castle u1
  have l2 : al * p2 w ≤ (hi : Rat) := by rw [ku]; exact Ex.castle (by omega)
  have near : ∀ L, s ≤ L → Ex.Bdd ((Ex.E x L - al) * Ex.t2 W) 1 := by
    intro L hL
    have d := dist_bd (hE L hL) l1 l2 hG
    refine bd_less d ?_
    have z := size_W (w := w) (g := g) (r := 0) hW (by omega) hw hw2
    rw [Nat.pow_zero, Nat.mul_one] at z
    exact z
  have al2 : al ≤ Ex.t2 103 := by
    have d := near s (Nat.le_refl s)
    have e := E_big x0 hx2 s
    have t : Ex.t2 103 = Ex.t2 102 + Ex.t2 102 := Ex.t2_succ 102
    have o : (1 : Rat) ≤ Ex.t2 102 := by decide +kernel
    have n := near_le d.1 (Ex.t2_mono (show 0 ≤ W by omega))
    rw [t]
    exact le_two n e o
  obtain ⟨K0, hK⟩ := Ex.exp_far (W := W) (by omega) ha hb hb2 hx hx2 hsv (v := 2 ^ p) (u := u) (Nat.pow_pos (by omega)) (Nat.pow_le_pow_right (by omega) (by omega)) ap a0 al2
  exact hK (max K0 s) (Nat.le_max_left _ _) (near _ (Nat.le_max_right _ _))
theorem inv_gap {M lo hi W : Nat} (h1 : 0 < W) (h2 : M = W * W) (h3 : W ≤ lo) (h4 : lo < hi) (h5 : hi - lo ≤ W) : M / lo ≤ M / hi + (hi - lo) + 1 ∧ M / hi ≤ M / lo ∧ M / lo ≤ W := by
  have lp : 0 < lo := by omega
  have hp : 0 < hi := by omega
  have a : M / hi ≤ W := by
    refine (Nat.div_le_iff_le_mul hp).2 ?_
    rw [h2]
    have := Nat.mul_le_mul_left W (show W ≤ hi by omega)
    omega
  have b : M / lo ≤ W := by
    refine (Nat.div_le_iff_le_mul lp).2 ?_
    rw [h2]
    have := Nat.mul_le_mul_left W h3
    omega
  refine ⟨?_, Nat.div_le_div_left (by omega) lp, b⟩
  refine Nat.le_of_lt_succ ((Nat.div_lt_iff_lt_mul lp).2 ?_)
  have k := Nat.lt_mul_div_succ M hp
  obtain ⟨g, hg⟩ : ∃ g, hi = lo + g := ⟨hi - lo, by omega⟩
  rw [show hi - lo = g by omega]
  generalize M / hi = q at *
  have m1 : q * g ≤ lo * g := Nat.mul_le_mul_right g (by omega)
  have e1 : hi * (q + 1) = q * lo + lo + q * g + g := by rw [hg, Nat.add_mul, Nat.mul_add, Nat.mul_add, Nat.mul_comm lo q, Nat.mul_comm g q]; omega
  have e2 : (q + g + 1).succ * lo = q * lo + lo * g + lo + lo := by
    show (q + g + 1 + 1) * lo = _
    rw [Nat.add_mul, Nat.add_mul, Nat.add_mul, Nat.mul_comm g lo, Nat.one_mul]
  rw [e2]
  rw [e1] at k
  omega
theorem inv_near {e r al P G : Rat} (he : 1 ≤ e) (he2 : e ≤ Ex.t2 102) (hr : r * al = 1) (ha : 0 < al) (hP : 0 < P) (hd : Ex.Bdd ((1 / e - r) * P) G) (hG : G * Ex.t2 103 ≤ P) : al ≤ Ex.t2 103 ∧ Ex.Bdd ((e - al) * P) (G * Ex.t2 205) := by
  have i : e * (1 / e) = 1 := Ex.mul_div e 1 (by grind)
  have T := Ex.t2_pos 103
  have t2' : Ex.t2 103 = Ex.t2 102 + Ex.t2 102 := Ex.t2_succ 102
  have T2 := Ex.t2_pos 102
  have nG := Ex.Bdd_nn hd
  have hal : al ≤ Ex.t2 103 := by
    refine Rat.not_lt.1 fun h => ?_
    have a1 : 1 ≤ 1 / e * Ex.t2 102 := by
      have e0 : 0 ≤ 1 / e := Ex.div_nn (by decide) (by grind)
      have := Rat.mul_le_mul_of_nonneg_left he2 e0
      grind
    have rp : 0 < r := by
      rcases Rat.le_total (a := r) (b := 0) with g | g
      · have := Rat.mul_le_mul_of_nonneg_right g (Rat.le_of_lt ha)
        grind
      · by_cases z : r = 0
        · subst z; grind
        · grind
    have a2 : r * Ex.t2 103 < 1 := by
      have := Rat.mul_pos rp (show 0 < al - Ex.t2 103 by grind)
      grind
    obtain ⟨-, d2⟩ := hd
    have m := Rat.mul_le_mul_of_nonneg_right d2 (Rat.le_of_lt T)
    have a3 : 1 < (1 / e - r) * Ex.t2 103 := by
      rw [t2'] at a2 ⊢
      generalize 1 / e = y at *
      grind
    have m2 := Rat.mul_pos (show 0 < (1 / e - r) * Ex.t2 103 - 1 by grind) hP
    have e2 : ((1 / e - r) * Ex.t2 103 - 1) * P = (1 / e - r) * P * Ex.t2 103 - P := by grind
    rw [e2] at m2
    grind
  refine ⟨hal, ?_⟩
  have e3 : (e - al) * P = (1 / e - r) * P * -(e * al) := by
    have : (1 / e - r) * P * -(e * al) = (r * al) * e * P - e * (1 / e) * al * P := by grind
    rw [this, hr, i]; grind
  rw [e3]
  have t5 : Ex.t2 205 = Ex.t2 102 * Ex.t2 103 := Ex.t2_add 102 103
  have b1 : Ex.Bdd (-(e * al)) (Ex.t2 205) := by
    have n1 : 0 ≤ e * al := Rat.mul_nonneg (by grind) (Rat.le_of_lt ha)
    have m1 := Rat.mul_le_mul_of_nonneg_right he2 (Rat.le_of_lt ha)
    have m2 := Rat.mul_le_mul_of_nonneg_left hal (Rat.le_of_lt T2)
    have m3 := Rat.le_trans m1 m2
    rw [← t5] at m3
    constructor <;> grind
  exact Ex.Bdd_mul hd b1
/-- Of a negative number. -/
theorem cert_neg {a b lo hi w p g s : Nat} {x : Rat} (ha : 0 < a) (hb : 0 < b) (hb2 : b ≤ 2 ^ 240) (hx : x * (b : Rat) = (a : Rat)) (hx2 : x ≤ 64) (hp : p ≤ 512) (hg : g ≤ 39000) (h0 : 2 ^ w ≤ lo) (h : lo < hi) (hG : hi ≤ lo + w * 2 ^ g)
    (hE : ∀ L, s ≤ L → Enc w lo hi (Ex.E x L)) (hw : 71000000 ≤ w) (hw2 : w ≤ 2 ^ 40) : 2 ^ (2 * w) / hi / 2 ^ (w - p) = (2 ^ (2 * w) / lo + 1 - 1) / 2 ^ (w - p) := by
  have PN : 0 < 2 ^ w := Nat.pow_pos (by omega)
  have gw : w * 2 ^ g ≤ 2 ^ w := by
    refine Nat.le_trans (Nat.mul_le_mul_right _ hw2) ?_
    rw [← Nat.pow_add]
    exact Nat.pow_le_pow_right (by omega) (by omega)
  obtain ⟨i1, i2, i3⟩ := inv_gap (M := 2 ^ (2 * w)) (lo := lo) (hi := hi) PN (by rw [← Nat.pow_add]; congr 1; omega) h0 h (by omega)
  refine Classical.byContradiction fun hc => ?_
  obtain ⟨u, u0, u1, u2⟩ := cert_or (lo := 2 ^ (2 * w) / hi) (hi := 2 ^ (2 * w) / lo + 1) (by omega) hc
  obtain ⟨W, hW⟩ : ∃ k : Nat, k = 70000000 := ⟨_, rfl⟩
  obtain ⟨sv, hsv⟩ : ∃ k : Nat, k = 520 := ⟨_, rfl⟩
  have Pp := p2_pos p
  have P := p2_pos w
  have uR : (0 : Rat) < (u : Rat) := Ex.castlt u0
  obtain ⟨r, hr⟩ : ∃ r : Rat, r = (u : Rat) / p2 p := ⟨_, rfl⟩
  have ar : r * p2 p = (u : Rat) := by rw [hr]; exact Rat.div_mul_cancel (by grind)
  obtain ⟨al, hal⟩ : ∃ r : Rat, r = p2 p / (u : Rat) := ⟨_, rfl⟩
  have au : al * (u : Rat) = ((2 ^ p : Nat) : Rat) := by rw [hal]; exact Rat.div_mul_cancel (by grind)
  have a0 : 0 < al := by
    rw [hal, Rat.div_def]; exact Rat.mul_pos Pp (Rat.inv_pos.2 uR)
  have ra : r * al = 1 := by
    refine Ex.cancel_l (c := p2 p) (by grind) ?_
    have : p2 p * (r * al) = al * (r * p2 p) := by grind
    rw [this, ar, au, Rat.mul_one]
  have c := cast_p2 u w p (by omega)
  have ku : r * p2 w = ((u * 2 ^ (w - p) : Nat) : Rat) := by
    refine Ex.cancel_l (c := p2 p) (by grind) ?_
    rw [Rat.mul_comm, Rat.mul_comm (p2 p), c, ← ar]; grind
  have x0 : 0 ≤ x := by
    have bp : (0 : Rat) < (b : Rat) := Ex.castlt hb
    refine le_by bp ?_
    rw [hx, Rat.zero_mul]; exact nat_nonneg a
  have l1 : ((2 ^ (2 * w) / hi : Nat) : Rat) ≤ r * p2 w := by rw [ku]; exact Ex.castle u1
  have l2 : r * p2 w ≤ ((2 ^ (2 * w) / lo + 1 : Nat) : Rat) := by rw [ku]; exact Ex.castle (Nat.le_trans u2 (Nat.sub_le _ 1))
  have gp : 1 ≤ w * 2 ^ g := Nat.mul_pos (by omega) (Nat.pow_pos (by omega))
  have GG : 2 ^ (2 * w) / lo + 1 ≤ 2 ^ (2 * w) / hi + w * 2 ^ g * 2 ^ 2 := by omega
  have two : ∀ L, s + 1 ≤ L → al ≤ Ex.t2 103 ∧ Ex.Bdd ((Ex.E x L - al) * Ex.t2 W) 1 := by
    intro L hL
    obtain ⟨en, -⟩ := enc_inv (by omega) (hE L (by omega))
    have d := dist_bd en l1 l2 GG
    have z := size_W (w := w) (g := g) (r := 2 + 205) hW (by omega) hw hw2
    have ez : ((w * 2 ^ g * 2 ^ (2 + 205) : Nat) : Rat) = ((w * 2 ^ g * 2 ^ 2 : Nat) : Rat) * Ex.t2 205 := by
      have : w * 2 ^ g * 2 ^ (2 + 205) = w * 2 ^ g * 2 ^ 2 * 2 ^ 205 := by rw [Nat.pow_add 2 2, Nat.mul_assoc (w * 2 ^ g)]
      rw [this]; exact Ex.castmul _ _
    rw [ez] at z
    have nG := nat_nonneg (w * 2 ^ g * 2 ^ 2)
    have small : ((w * 2 ^ g * 2 ^ 2 : Nat) : Rat) * Ex.t2 103 ≤ p2 w := by
      have h1 : w * 2 ^ g * 2 ^ 2 * 2 ^ 103 ≤ 2 ^ w := by
        refine Nat.le_trans (Nat.mul_le_mul_right _ (Nat.mul_le_mul_right _ (Nat.mul_le_mul_right _ hw2))) ?_
        rw [← Nat.pow_add, ← Nat.pow_add, ← Nat.pow_add]
        exact Nat.pow_le_pow_right (by omega) (by omega)
      have e : ((w * 2 ^ g * 2 ^ 2 * 2 ^ 103 : Nat) : Rat) = ((w * 2 ^ g * 2 ^ 2 : Nat) : Rat) * Ex.t2 103 := Ex.castmul _ _
      rw [← e]; exact Ex.castle h1
    obtain ⟨n1, n2⟩ := inv_near (E_one x0 (by omega)) (E_big x0 hx2 L) ra a0 P d small
    exact ⟨n1, bd_less n2 z⟩
  have up : u ≤ 2 ^ p := by
    have e : 2 ^ w = 2 ^ p * 2 ^ (w - p) := by rw [← Nat.pow_add]; congr 1; omega
    have k : u * 2 ^ (w - p) ≤ 2 ^ p * 2 ^ (w - p) := by rw [← e]; omega
    exact Nat.le_of_mul_le_mul_right k (Nat.pow_pos (by omega))
  have up2 : 2 ^ p ≤ 2 ^ sv := Nat.pow_le_pow_right (by omega) (by omega)
  obtain ⟨K0, hK⟩ := Ex.exp_far (W := W) (by omega) ha hb hb2 hx hx2 hsv (v := u) (u := 2 ^ p) u0 (Nat.le_trans up up2) au a0 (two (s + 1) (Nat.le_refl _)).1
  exact hK (max K0 (s + 1)) (Nat.le_max_left _ _) (two _ (Nat.le_max_right _ _)).2
end Go.Proofs.YtemnjalaincijaaGreat

/- vernierref4: whole numbers and what lies between two of them, in the evaluator. -/
namespace Go.Proofs.YtemnjalaincijaaGreat
set_option linter.unusedSimpArgs false
set_option linter.unusedVariables false
set_option maxRecDepth 8000
open Go.Ev
/-- A whole number. -/
abbrev intV (z : Int) : SV := .agg [.bool (decide (z < 0)), natV (lim z.natAbs)]
/-- From one whole number to another. -/
abbrev ivV (a b : Int) : SV := .agg [.bool (decide (a < 0)), natV (lim a.natAbs), .bool (decide (b < 0)), natV (lim b.natAbs)]
theorem lim_ne {n : Nat} : decide (0 < (lim n).length) = decide (n ≠ 0) := by
  by_cases h : n = 0
  · subst h; rw [lim_zero]; rfl
  · rw [decide_eq_true (lim_pos h), decide_eq_true h]
theorem ref4_Whole (n : Int) (h : -9223372036854775808 < n ∧ n < 9223372036854775808) : Go.Ev.Fn CX 143 [.int .i64 n] (intV n) := by
  by_cases h0 : n < 0
  · obtain ⟨m, rfl⟩ : ∃ m : Nat, n = -(m : Int) := ⟨n.natAbs, by omega⟩
    have o := ref1_Of m (by omega)
    rw [show intV (-(m : Int)) = .agg [.bool true, natV (lim m)] by show SV.agg [.bool (decide (-(m : Int) < 0)), natV (lim (-(m : Int)).natAbs)] = _; rw [decide_eq_true h0, Int.natAbs_neg, Int.natAbs_natCast]]
    have e0 : 0 - -(m : Int) = (m : Int) := by omega
    refine Go.Ev.Fn.intro (fn := Tryz.f143) (body := (Tryz.f143).body.get!) (by kernel_rfl) (by kernel_rfl) (by kernel_rfl) (fun _ => rfl) (Nat.le_of_ble_eq_true (by kernel_rfl)) ?_; unfold Tryz.f143; simp only [Option.get!_some]
    repeat (first | (simp only [go_sem, Nat.reduceEqDiff, Nat.reduceAdd, Nat.reduceSub, Nat.reduceMul, Nat.reduceLeDiff, Nat.reduceLT, reduceIte, reduceCtorEq, Nat.succ_ne_zero, elemsC, Int.reduceToNat, Nat.reducePow, e0]) | (simp (disch := (first | omega | (simp only [AL, List.length_map]; omega))) only [AR, AL, ifT, ifF, take_all, List.length_cons, List.length_nil, Int.reduceToNat, Int.reducePow, Nat.reducePow, e0]) | (refine wk_intro (by kernel_rfl) ?_) | (refine vf_of (by first | exact o) ?_))
  · obtain ⟨m, rfl⟩ : ∃ m : Nat, n = (m : Int) := ⟨n.natAbs, by omega⟩
    have o := ref1_Of m (by omega)
    rw [show intV (m : Int) = .agg [.bool false, natV (lim m)] by show SV.agg [.bool (decide ((m : Int) < 0)), natV (lim (m : Int).natAbs)] = _; rw [decide_eq_false h0, Int.natAbs_natCast]]
    refine Go.Ev.Fn.intro (fn := Tryz.f143) (body := (Tryz.f143).body.get!) (by kernel_rfl) (by kernel_rfl) (by kernel_rfl) (fun _ => rfl) (Nat.le_of_ble_eq_true (by kernel_rfl)) ?_; unfold Tryz.f143; simp only [Option.get!_some]
    repeat (first | (simp only [go_sem, Nat.reduceEqDiff, Nat.reduceAdd, Nat.reduceSub, Nat.reduceMul, Nat.reduceLeDiff, Nat.reduceLT, reduceIte, reduceCtorEq, Nat.succ_ne_zero, elemsC, Int.reduceToNat, Nat.reducePow]) | (simp (disch := (first | omega | (simp only [AL, List.length_map]; omega))) only [AR, AL, ifT, ifF, take_all, List.length_cons, List.length_nil, Int.reduceToNat, Int.reducePow, Nat.reducePow]) | (refine wk_intro (by kernel_rfl) ?_) | (refine vf_of (by first | exact o) ?_))
theorem ref4_Opp (z : Int) (h : (lim z.natAbs).length ≤ 1000000) : Go.Ev.Fn CX 187 [intV z] (intV (-z)) := by
  have e : intV (-z) = .agg [.bool (!decide (z < 0) && decide (0 < (lim z.natAbs).length)), natV (lim z.natAbs)] := by
    show SV.agg [.bool (decide (-z < 0)), natV (lim (-z).natAbs)] = _
    rw [lim_ne, Int.natAbs_neg]
    by_cases h1 : z < 0
    · rw [decide_eq_true h1, decide_eq_false (by omega)]; rfl
    · by_cases h2 : z = 0
      · rw [decide_eq_false h1, decide_eq_false (by omega), decide_eq_false (by omega)]; rfl
      · rw [decide_eq_false h1, decide_eq_true (by omega), decide_eq_true (by omega)]; rfl
  rw [e]
  by_cases h1 : z < 0
  · rw [decide_eq_true h1]
    refine Go.Ev.Fn.intro (fn := Tryz.f187) (body := (Tryz.f187).body.get!) (by kernel_rfl) (by kernel_rfl) (by kernel_rfl) (fun _ => rfl) (Nat.le_of_ble_eq_true (by kernel_rfl)) ?_; unfold Tryz.f187; simp only [Option.get!_some]
    repeat (first | (simp only [go_sem, Nat.reduceEqDiff, Nat.reduceAdd, Nat.reduceSub, Nat.reduceMul, Nat.reduceLeDiff, Nat.reduceLT, reduceIte, reduceCtorEq, Nat.succ_ne_zero, elemsC, Int.reduceToNat, Nat.reducePow, Bool.not_true, Bool.not_false, Bool.false_and, Bool.true_and]) | (simp (disch := (first | omega | (simp only [AL, List.length_map]; omega))) only [AR, AL, ifT, ifF, take_all, List.length_cons, List.length_nil, Int.reduceToNat, Int.reducePow, Nat.reducePow, Bool.not_true, Bool.not_false, Bool.false_and, Bool.true_and]) | (refine wk_intro (by kernel_rfl) ?_))
  · rw [decide_eq_false h1]
    refine Go.Ev.Fn.intro (fn := Tryz.f187) (body := (Tryz.f187).body.get!) (by kernel_rfl) (by kernel_rfl) (by kernel_rfl) (fun _ => rfl) (Nat.le_of_ble_eq_true (by kernel_rfl)) ?_; unfold Tryz.f187; simp only [Option.get!_some]
    repeat (first | (simp only [go_sem, Nat.reduceEqDiff, Nat.reduceAdd, Nat.reduceSub, Nat.reduceMul, Nat.reduceLeDiff, Nat.reduceLT, reduceIte, reduceCtorEq, Nat.succ_ne_zero, elemsC, Int.reduceToNat, Nat.reducePow, Bool.not_true, Bool.not_false, Bool.false_and, Bool.true_and]) | (simp (disch := (first | omega | (simp only [AL, List.length_map]; omega))) only [AR, AL, ifT, ifF, take_all, List.length_cons, List.length_nil, Int.reduceToNat, Int.reducePow, Nat.reducePow, Bool.not_true, Bool.not_false, Bool.false_and, Bool.true_and]) | (refine wk_intro (by kernel_rfl) ?_))
    rw [show decide (((lim z.natAbs).length : Int) > 0) = decide (0 < (lim z.natAbs).length) from decide_eq_decide.2 (by omega)]
end Go.Proofs.YtemnjalaincijaaGreat

/- vernierref4: Plus, Times, Cmp, Fall, Rise, pow2, Less, More, in the evaluator. -/
namespace Go.Proofs.YtemnjalaincijaaGreat
set_option linter.unusedSimpArgs false
set_option linter.unusedVariables false
set_option maxRecDepth 8000
open Go.Ev
theorem iv_eq {z : Int} {s : Bool} {n : Nat} (h1 : z.natAbs = n) (h2 : decide (z < 0) = s) : intV z = .agg [.bool s, natV (lim n)] := by subst h1 h2; rfl
theorem lenpos {n : Nat} : decide (((lim n).length : Int) > 0) = decide (n ≠ 0) := by
  rw [← lim_ne]; exact decide_eq_decide.2 (by omega)
theorem ref4_Plus (a b : Int) (ha : (lim a.natAbs).length ≤ 1000000) (hb : (lim b.natAbs).length ≤ 1000000) : Go.Ev.Fn CX 142 [intV a, intV b] (intV (a + b)) := by
  have s1 := ref1_AddL (N := a.natAbs) (D := b.natAbs) (by omega) (by omega)
  have c1 := ref1_CmpL (N := a.natAbs) (D := b.natAbs) (by omega) (by omega)
  have s2 := ref1_SubL (N := a.natAbs) (D := b.natAbs) (by omega) (by omega)
  have s3 := ref1_SubL (N := b.natAbs) (D := a.natAbs) (by omega) (by omega)
  have hbb := beq_bool (decide (a < 0)) (decide (b < 0))
  have l2 := lim_len_mono (Nat.sub_le a.natAbs b.natAbs)
  have l3 := lim_len_mono (Nat.sub_le b.natAbs a.natAbs)
  have hl := fun (n : Nat) => lenpos (n := n)
  have hbt : (true == false) = false := rfl
  have hbf : (false == true) = false := rfl
  by_cases hs : decide (a < 0) = decide (b < 0)
  · rw [decide_eq_true hs] at hbb
    have hs' := decide_eq_decide.1 hs
    rw [iv_eq (z := a + b) (s := decide (a < 0)) (n := a.natAbs + b.natAbs) (by omega) (decide_eq_decide.2 (by omega))]
    clear hs
    refine Go.Ev.Fn.intro (fn := Tryz.f142) (body := (Tryz.f142).body.get!) (by kernel_rfl) (by kernel_rfl) (by kernel_rfl) (fun _ => rfl) (Nat.le_of_ble_eq_true (by kernel_rfl)) ?_; unfold Tryz.f142; simp only [Option.get!_some]
    repeat (first | (simp only [go_sem, Nat.reduceEqDiff, Nat.reduceAdd, Nat.reduceSub, Nat.reduceMul, Nat.reduceLeDiff, Nat.reduceLT, reduceIte, reduceCtorEq, Nat.succ_ne_zero, elemsC, Int.reduceToNat, Nat.reducePow, hbb]) | (simp (disch := (first | omega | (simp only [AL, List.length_map]; omega))) only [AR, AL, ifT, ifF, take_all, List.length_cons, List.length_nil, Int.reduceToNat, Int.reducePow, Nat.reducePow, hbb]) | (refine wk_intro (by kernel_rfl) ?_) | (refine vp_draw (id := 2) (l := [17, 19]) (by kernel_rfl) ?_) | (refine vf_of (by first | exact s1) ?_))
  · rw [decide_eq_false hs] at hbb
    have hs' : ¬ ((a < 0) ↔ (b < 0)) := fun h => hs (decide_eq_decide.2 h)
    by_cases h2 : b.natAbs ≤ a.natAbs
    · have e : decide (cmpN a.natAbs b.natAbs ≥ 0) = true := decide_eq_true (by unfold cmpN; split <;> (try split) <;> omega)
      rw [iv_eq (z := a + b) (s := decide (a < 0) && decide (a.natAbs - b.natAbs ≠ 0)) (n := a.natAbs - b.natAbs) (by omega) (by rw [← Bool.decide_and]; exact decide_eq_decide.2 (by omega))]
      generalize cmpN a.natAbs b.natAbs = c at *
      generalize a.natAbs - b.natAbs = x at *
      clear hs s3 s1
      by_cases h3 : a < 0
      · rw [decide_eq_true h3]
        rw [decide_eq_true h3] at hbb
        refine Go.Ev.Fn.intro (fn := Tryz.f142) (body := (Tryz.f142).body.get!) (by kernel_rfl) (by kernel_rfl) (by kernel_rfl) (fun _ => rfl) (Nat.le_of_ble_eq_true (by kernel_rfl)) ?_; unfold Tryz.f142; simp only [Option.get!_some]
        repeat (first | (simp only [go_sem, Nat.reduceEqDiff, Nat.reduceAdd, Nat.reduceSub, Nat.reduceMul, Nat.reduceLeDiff, Nat.reduceLT, reduceIte, reduceCtorEq, Nat.succ_ne_zero, elemsC, Int.reduceToNat, Nat.reducePow, hbt, hbf, hbb, e, hl, Bool.true_and]) | (simp (disch := (first | omega | (simp only [AL, List.length_map]; omega))) only [AR, AL, ifT, ifF, take_all, List.length_cons, List.length_nil, Int.reduceToNat, Int.reducePow, Nat.reducePow, hbt, hbf, hbb, e, hl, Bool.true_and]) | (refine wk_intro (by kernel_rfl) ?_) | (refine vp_draw (id := 2) (l := [17, 19]) (by kernel_rfl) ?_) | (refine vf_of (by first | exact c1 | exact s2) ?_))
      · rw [decide_eq_false h3]
        rw [decide_eq_false h3] at hbb
        refine Go.Ev.Fn.intro (fn := Tryz.f142) (body := (Tryz.f142).body.get!) (by kernel_rfl) (by kernel_rfl) (by kernel_rfl) (fun _ => rfl) (Nat.le_of_ble_eq_true (by kernel_rfl)) ?_; unfold Tryz.f142; simp only [Option.get!_some]
        repeat (first | (simp only [go_sem, Nat.reduceEqDiff, Nat.reduceAdd, Nat.reduceSub, Nat.reduceMul, Nat.reduceLeDiff, Nat.reduceLT, reduceIte, reduceCtorEq, Nat.succ_ne_zero, elemsC, Int.reduceToNat, Nat.reducePow, hbt, hbf, hbb, e, hl, Bool.false_and]) | (simp (disch := (first | omega | (simp only [AL, List.length_map]; omega))) only [AR, AL, ifT, ifF, take_all, List.length_cons, List.length_nil, Int.reduceToNat, Int.reducePow, Nat.reducePow, hbt, hbf, hbb, e, hl, Bool.false_and]) | (refine wk_intro (by kernel_rfl) ?_) | (refine vp_draw (id := 2) (l := [17, 19]) (by kernel_rfl) ?_) | (refine vf_of (by first | exact c1 | exact s2) ?_))
    · have e : decide (cmpN a.natAbs b.natAbs ≥ 0) = false := decide_eq_false (by unfold cmpN; split <;> (try split) <;> omega)
      rw [iv_eq (z := a + b) (s := decide (b < 0) && decide (b.natAbs - a.natAbs ≠ 0)) (n := b.natAbs - a.natAbs) (by omega) (by rw [← Bool.decide_and]; exact decide_eq_decide.2 (by omega))]
      generalize cmpN a.natAbs b.natAbs = c at *
      generalize b.natAbs - a.natAbs = x at *
      clear hs s2 s1
      by_cases h3 : b < 0
      · rw [decide_eq_true h3]
        rw [decide_eq_true h3] at hbb
        refine Go.Ev.Fn.intro (fn := Tryz.f142) (body := (Tryz.f142).body.get!) (by kernel_rfl) (by kernel_rfl) (by kernel_rfl) (fun _ => rfl) (Nat.le_of_ble_eq_true (by kernel_rfl)) ?_; unfold Tryz.f142; simp only [Option.get!_some]
        repeat (first | (simp only [go_sem, Nat.reduceEqDiff, Nat.reduceAdd, Nat.reduceSub, Nat.reduceMul, Nat.reduceLeDiff, Nat.reduceLT, reduceIte, reduceCtorEq, Nat.succ_ne_zero, elemsC, Int.reduceToNat, Nat.reducePow, hbt, hbf, hbb, e, hl, Bool.true_and]) | (simp (disch := (first | omega | (simp only [AL, List.length_map]; omega))) only [AR, AL, ifT, ifF, take_all, List.length_cons, List.length_nil, Int.reduceToNat, Int.reducePow, Nat.reducePow, hbt, hbf, hbb, e, hl, Bool.true_and]) | (refine wk_intro (by kernel_rfl) ?_) | (refine vp_draw (id := 2) (l := [17, 19]) (by kernel_rfl) ?_) | (refine vf_of (by first | exact c1 | exact s3) ?_))
      · rw [decide_eq_false h3]
        rw [decide_eq_false h3] at hbb
        refine Go.Ev.Fn.intro (fn := Tryz.f142) (body := (Tryz.f142).body.get!) (by kernel_rfl) (by kernel_rfl) (by kernel_rfl) (fun _ => rfl) (Nat.le_of_ble_eq_true (by kernel_rfl)) ?_; unfold Tryz.f142; simp only [Option.get!_some]
        repeat (first | (simp only [go_sem, Nat.reduceEqDiff, Nat.reduceAdd, Nat.reduceSub, Nat.reduceMul, Nat.reduceLeDiff, Nat.reduceLT, reduceIte, reduceCtorEq, Nat.succ_ne_zero, elemsC, Int.reduceToNat, Nat.reducePow, hbt, hbf, hbb, e, hl, Bool.false_and]) | (simp (disch := (first | omega | (simp only [AL, List.length_map]; omega))) only [AR, AL, ifT, ifF, take_all, List.length_cons, List.length_nil, Int.reduceToNat, Int.reducePow, Nat.reducePow, hbt, hbf, hbb, e, hl, Bool.false_and]) | (refine wk_intro (by kernel_rfl) ?_) | (refine vp_draw (id := 2) (l := [17, 19]) (by kernel_rfl) ?_) | (refine vf_of (by first | exact c1 | exact s3) ?_))
theorem ref4_Times (a b : Int) (ha : (lim a.natAbs).length ≤ 100000) (hb : (lim b.natAbs).length ≤ 100000) : Go.Ev.Fn CX 156 [intV a, intV b] (intV (a * b)) := by
  have m := ref1_MulL (N := a.natAbs) (D := b.natAbs) (by omega) (by omega)
  have l := lim_len_mul (a := a.natAbs) (b := b.natAbs)
  have hl := fun (n : Nat) => lenpos (n := n)
  rw [iv_eq (z := a * b) (s := (!(decide (a < 0) == decide (b < 0))) && decide (a.natAbs * b.natAbs ≠ 0)) (n := a.natAbs * b.natAbs) (Int.natAbs_mul a b) ?_]
  · generalize a.natAbs * b.natAbs = x at *
    cases h1 : (!(decide (a < 0) == decide (b < 0)))
    · refine Go.Ev.Fn.intro (fn := Tryz.f156) (body := (Tryz.f156).body.get!) (by kernel_rfl) (by kernel_rfl) (by kernel_rfl) (fun _ => rfl) (Nat.le_of_ble_eq_true (by kernel_rfl)) ?_; unfold Tryz.f156; simp only [Option.get!_some]
      repeat (first | (simp only [go_sem, Nat.reduceEqDiff, Nat.reduceAdd, Nat.reduceSub, Nat.reduceMul, Nat.reduceLeDiff, Nat.reduceLT, reduceIte, reduceCtorEq, Nat.succ_ne_zero, elemsC, Int.reduceToNat, Nat.reducePow, h1, hl, Bool.false_and]) | (simp (disch := (first | omega | (simp only [AL, List.length_map]; omega))) only [AR, AL, ifT, ifF, take_all, List.length_cons, List.length_nil, Int.reduceToNat, Int.reducePow, Nat.reducePow, h1, hl, Bool.false_and]) | (refine wk_intro (by kernel_rfl) ?_) | (refine vf_of (by first | exact m) ?_))
    · refine Go.Ev.Fn.intro (fn := Tryz.f156) (body := (Tryz.f156).body.get!) (by kernel_rfl) (by kernel_rfl) (by kernel_rfl) (fun _ => rfl) (Nat.le_of_ble_eq_true (by kernel_rfl)) ?_; unfold Tryz.f156; simp only [Option.get!_some]
      repeat (first | (simp only [go_sem, Nat.reduceEqDiff, Nat.reduceAdd, Nat.reduceSub, Nat.reduceMul, Nat.reduceLeDiff, Nat.reduceLT, reduceIte, reduceCtorEq, Nat.succ_ne_zero, elemsC, Int.reduceToNat, Nat.reducePow, h1, hl, Bool.true_and]) | (simp (disch := (first | omega | (simp only [AL, List.length_map]; omega))) only [AR, AL, ifT, ifF, take_all, List.length_cons, List.length_nil, Int.reduceToNat, Int.reducePow, Nat.reducePow, h1, hl, Bool.true_and]) | (refine wk_intro (by kernel_rfl) ?_) | (refine vf_of (by first | exact m) ?_))
  · by_cases h0 : a.natAbs * b.natAbs = 0
    · have : a * b = 0 := by
        have := Int.natAbs_mul a b
        omega
      rw [this, h0]
      simp
    · rw [decide_eq_true h0, Bool.and_true]
      have h := sgn_mul a b
      rw [← h]
      exact sgn_neg _ h0
/-- -1, 0, 1. -/
def cmpZ (a b : Int) : Int := if a < b then -1 else if a = b then 0 else 1
theorem ref4_Cmp (a b : Int) (ha : (lim a.natAbs).length ≤ 100000) (hb : (lim b.natAbs).length ≤ 100000) : Go.Ev.Fn CX 144 [intV a, intV b] (.int .i64 (cmpZ a b)) := by
  have o := ref4_Opp b (by omega)
  have s := ref4_Plus a (-b) (by omega) (by rw [Int.natAbs_neg]; omega)
  have l : (lim (a + -b).natAbs).length ≤ 100001 := Nat.le_trans (lim_len_mono (show (a + -b).natAbs ≤ a.natAbs + b.natAbs by omega)) (lim_len_add (L := 100000) ha hb)
  by_cases h0 : a + -b = 0
  · rw [show cmpZ a b = 0 by unfold cmpZ; rw [if_neg (by omega), if_pos (by omega)]]
    have e : (lim (a + -b).natAbs).length = 0 := by rw [h0]; simp [lim_zero]
    refine Go.Ev.Fn.intro (fn := Tryz.f144) (body := (Tryz.f144).body.get!) (by kernel_rfl) (by kernel_rfl) (by kernel_rfl) (fun _ => rfl) (Nat.le_of_ble_eq_true (by kernel_rfl)) ?_; unfold Tryz.f144; simp only [Option.get!_some]
    repeat (first | (simp only [go_sem, Nat.reduceEqDiff, Nat.reduceAdd, Nat.reduceSub, Nat.reduceMul, Nat.reduceLeDiff, Nat.reduceLT, reduceIte, reduceCtorEq, Nat.succ_ne_zero, elemsC, Int.reduceToNat, Nat.reducePow, e]) | (simp (disch := (first | omega | (simp only [AL, List.length_map]; omega))) only [AR, AL, ifT, ifF, take_all, List.length_cons, List.length_nil, Int.reduceToNat, Int.reducePow, Nat.reducePow, e]) | (refine wk_intro (by kernel_rfl) ?_) | (refine vp_draw (id := 1) (l := []) (by kernel_rfl) ?_) | (refine vf_of (by first | exact o | exact s) ?_))
  · have e := lim_pos (N := (a + -b).natAbs) (by omega)
    by_cases h1 : a + -b < 0
    · rw [show cmpZ a b = -1 by unfold cmpZ; rw [if_pos (by omega)]]
      have e2 : decide (a + -b < 0) = true := decide_eq_true h1
      refine Go.Ev.Fn.intro (fn := Tryz.f144) (body := (Tryz.f144).body.get!) (by kernel_rfl) (by kernel_rfl) (by kernel_rfl) (fun _ => rfl) (Nat.le_of_ble_eq_true (by kernel_rfl)) ?_; unfold Tryz.f144; simp only [Option.get!_some]
      repeat (first | (simp only [go_sem, Nat.reduceEqDiff, Nat.reduceAdd, Nat.reduceSub, Nat.reduceMul, Nat.reduceLeDiff, Nat.reduceLT, reduceIte, reduceCtorEq, Nat.succ_ne_zero, elemsC, Int.reduceToNat, Nat.reducePow, e2]) | (simp (disch := (first | omega | (simp only [AL, List.length_map]; omega))) only [AR, AL, ifT, ifF, take_all, List.length_cons, List.length_nil, Int.reduceToNat, Int.reducePow, Nat.reducePow, e2]) | (refine wk_intro (by kernel_rfl) ?_) | (refine vp_draw (id := 1) (l := []) (by kernel_rfl) ?_) | (refine vf_of (by first | exact o | exact s) ?_))
    · rw [show cmpZ a b = 1 by unfold cmpZ; rw [if_neg (by omega), if_neg (by omega)]]
      have e2 : decide (a + -b < 0) = false := decide_eq_false h1
      refine Go.Ev.Fn.intro (fn := Tryz.f144) (body := (Tryz.f144).body.get!) (by kernel_rfl) (by kernel_rfl) (by kernel_rfl) (fun _ => rfl) (Nat.le_of_ble_eq_true (by kernel_rfl)) ?_; unfold Tryz.f144; simp only [Option.get!_some]
      repeat (first | (simp only [go_sem, Nat.reduceEqDiff, Nat.reduceAdd, Nat.reduceSub, Nat.reduceMul, Nat.reduceLeDiff, Nat.reduceLT, reduceIte, reduceCtorEq, Nat.succ_ne_zero, elemsC, Int.reduceToNat, Nat.reducePow, e2]) | (simp (disch := (first | omega | (simp only [AL, List.length_map]; omega))) only [AR, AL, ifT, ifF, take_all, List.length_cons, List.length_nil, Int.reduceToNat, Int.reducePow, Nat.reducePow, e2]) | (refine wk_intro (by kernel_rfl) ?_) | (refine vp_draw (id := 1) (l := []) (by kernel_rfl) ?_) | (refine vf_of (by first | exact o | exact s) ?_))
/-- Rounded up. -/
def cdZ (a : Int) (d : Nat) : Int := -(-a / (d : Int))
theorem fall_eq {a : Int} {d : Nat} (hd : d ≠ 0) : a / (d : Int) = if a < 0 ∧ a.natAbs % d ≠ 0 then -((a.natAbs / d + 1 : Nat) : Int) else sgn (decide (a < 0)) (a.natAbs / d) := by
  by_cases h : a < 0
  · obtain ⟨m, rfl⟩ : ∃ m : Nat, a = -(m : Int) := ⟨a.natAbs, by omega⟩
    rw [Int.natAbs_neg, Int.natAbs_natCast]
    have hm := Nat.div_add_mod m d
    have hlt := Nat.mod_lt m (Nat.pos_of_ne_zero hd)
    by_cases h2 : m % d = 0
    · rw [if_neg (fun g => g.2 h2), decide_eq_true h]
      unfold sgn
      rw [if_pos rfl]
      have : -(m : Int) = (d : Int) * -((m / d : Nat) : Int) := by
        rw [Int.mul_neg, ← Int.natCast_mul]
        omega
      rw [this, Int.mul_ediv_cancel_left _ (by omega)]
    · rw [if_pos ⟨h, h2⟩]
      have e : -(m : Int) = ((d - m % d : Nat) : Int) + (d : Int) * -((m / d + 1 : Nat) : Int) := by
        rw [Int.mul_neg, ← Int.natCast_mul, Nat.mul_add, Nat.mul_one]
        omega
      rw [e, Int.add_mul_ediv_left _ _ (by omega), Int.ediv_eq_zero_of_lt (by omega) (by omega)]
      omega
  · obtain ⟨m, rfl⟩ : ∃ m : Nat, a = (m : Int) := ⟨a.natAbs, by omega⟩
    rw [if_neg (fun g => h g.1), decide_eq_false h, Int.natAbs_natCast]
    unfold sgn
    rw [if_neg (by simp), Int.natCast_ediv]
theorem sgn_iv (s : Bool) (n : Nat) : intV (sgn s n) = .agg [.bool (s && decide (n ≠ 0)), natV (lim n)] := by
  refine iv_eq (sgn_abs s n) ?_
  by_cases h : n = 0
  · subst h; rw [sgn_zero]; simp
  · rw [sgn_neg s h, decide_eq_true h, Bool.and_true]
theorem ref4_Fall (a : Int) (d : Nat) (hd : d ≠ 0) (ha : (lim a.natAbs).length ≤ 1000000) (hb : (lim d).length ≤ 1000000) : Go.Ev.Fn CX 152 [intV a, natV (lim d)] (intV (a / (d : Int))) := by
  have s1 := ref1_DivL (N := a.natAbs) (D := d) hd (by omega) (by omega)
  have l := lim_len_mono (Nat.div_le_self a.natAbs d)
  have l1 := lim_len1
  have s2 := ref1_AddL (N := a.natAbs / d) (D := 1) (by omega) (by omega)
  rw [lim_one] at s2
  have hl := fun (n : Nat) => lenpos (n := n)
  have l4 := lim_len_mono (Nat.le_of_lt (Nat.mod_lt a.natAbs (Nat.pos_of_ne_zero hd)))
  have l5 := lim_len_add (a := a.natAbs / d) (b := 1) (L := 1000000) (by omega) (by omega)
  have e := fall_eq (a := a) hd
  by_cases h : a < 0
  · by_cases h2 : a.natAbs % d = 0
    · rw [if_neg (fun g => g.2 h2)] at e
      rw [e, sgn_iv, decide_eq_true h]
      rw [h2] at s1
      have h0 : decide ((0 : Nat) ≠ 0) = false := rfl
      generalize a.natAbs / d = x at *
      refine Go.Ev.Fn.intro (fn := Tryz.f152) (body := (Tryz.f152).body.get!) (by kernel_rfl) (by kernel_rfl) (by kernel_rfl) (fun _ => rfl) (Nat.le_of_ble_eq_true (by kernel_rfl)) ?_; unfold Tryz.f152; simp only [Option.get!_some]
      repeat (first | (simp only [go_sem, Nat.reduceEqDiff, Nat.reduceAdd, Nat.reduceSub, Nat.reduceMul, Nat.reduceLeDiff, Nat.reduceLT, reduceIte, reduceCtorEq, Nat.succ_ne_zero, elemsC, Int.reduceToNat, Nat.reducePow, hl, h0, Bool.true_and]) | (simp (disch := (first | omega | (simp only [AL, List.length_map]; omega))) only [AR, AL, ifT, ifF, take_all, List.length_cons, List.length_nil, Int.reduceToNat, Int.reducePow, Nat.reducePow, hl, h0, Bool.true_and]) | (refine wk_intro (by kernel_rfl) ?_) | (refine vf_of (by first | exact s1) ?_))
    · rw [if_pos ⟨h, h2⟩] at e
      rw [e, show -((a.natAbs / d + 1 : Nat) : Int) = sgn true (a.natAbs / d + 1) from rfl, sgn_iv]
      have h0 : decide (a.natAbs % d ≠ 0) = true := decide_eq_true h2
      generalize a.natAbs / d + 1 = y at *
      generalize a.natAbs / d = x at *
      generalize a.natAbs % d = r at *
      refine Go.Ev.Fn.intro (fn := Tryz.f152) (body := (Tryz.f152).body.get!) (by kernel_rfl) (by kernel_rfl) (by kernel_rfl) (fun _ => rfl) (Nat.le_of_ble_eq_true (by kernel_rfl)) ?_; unfold Tryz.f152; simp only [Option.get!_some]
      repeat (first | (simp only [go_sem, Nat.reduceEqDiff, Nat.reduceAdd, Nat.reduceSub, Nat.reduceMul, Nat.reduceLeDiff, Nat.reduceLT, reduceIte, reduceCtorEq, Nat.succ_ne_zero, elemsC, Int.reduceToNat, Nat.reducePow, hl, h0, Bool.true_and]) | (simp (disch := (first | omega | (simp only [AL, List.length_map]; omega))) only [AR, AL, ifT, ifF, take_all, List.length_cons, List.length_nil, Int.reduceToNat, Int.reducePow, Nat.reducePow, hl, h0, Bool.true_and]) | (refine wk_intro (by kernel_rfl) ?_) | (refine vf_of (by first | exact s1 | exact s2) ?_))
  · rw [if_neg (fun g => h g.1)] at e
    rw [e, sgn_iv, decide_eq_false h]
    generalize a.natAbs / d = x at *
    refine Go.Ev.Fn.intro (fn := Tryz.f152) (body := (Tryz.f152).body.get!) (by kernel_rfl) (by kernel_rfl) (by kernel_rfl) (fun _ => rfl) (Nat.le_of_ble_eq_true (by kernel_rfl)) ?_; unfold Tryz.f152; simp only [Option.get!_some]
    repeat (first | (simp only [go_sem, Nat.reduceEqDiff, Nat.reduceAdd, Nat.reduceSub, Nat.reduceMul, Nat.reduceLeDiff, Nat.reduceLT, reduceIte, reduceCtorEq, Nat.succ_ne_zero, elemsC, Int.reduceToNat, Nat.reducePow, hl, Bool.false_and]) | (simp (disch := (first | omega | (simp only [AL, List.length_map]; omega))) only [AR, AL, ifT, ifF, take_all, List.length_cons, List.length_nil, Int.reduceToNat, Int.reducePow, Nat.reducePow, hl, Bool.false_and]) | (refine wk_intro (by kernel_rfl) ?_) | (refine vf_of (by first | exact s1) ?_))
theorem abs_div_le (a : Int) {d : Nat} (hd : d ≠ 0) : (a / (d : Int)).natAbs ≤ a.natAbs := by
  rw [fall_eq hd]
  have h1 := Nat.div_le_self a.natAbs d
  split
  · rename_i h
    rw [Int.natAbs_neg, Int.natAbs_natCast]
    have hm := Nat.div_add_mod a.natAbs d
    have : a.natAbs / d ≤ d * (a.natAbs / d) := Nat.le_mul_of_pos_left _ (Nat.pos_of_ne_zero hd)
    omega
  · rw [sgn_abs]; exact h1
theorem cd_abs_le (a : Int) {d : Nat} (hd : d ≠ 0) : (cdZ a d).natAbs ≤ a.natAbs := by
  have := abs_div_le (-a) hd
  unfold cdZ
  omega
theorem ref4_Rise (a : Int) (d : Nat) (hd : d ≠ 0) (ha : (lim a.natAbs).length ≤ 1000000) (hb : (lim d).length ≤ 1000000) : Go.Ev.Fn CX 153 [intV a, natV (lim d)] (intV (cdZ a d)) := by
  have o := ref4_Opp a ha
  have f := ref4_Fall (-a) d hd (by rw [Int.natAbs_neg]; exact ha) hb
  have l := lim_len_mono (abs_div_le (-a) hd)
  rw [Int.natAbs_neg a] at l
  have o2 := ref4_Opp (-a / (d : Int)) (by omega)
  unfold cdZ
  generalize -a / (d : Int) = y at *
  refine Go.Ev.Fn.intro (fn := Tryz.f153) (body := (Tryz.f153).body.get!) (by kernel_rfl) (by kernel_rfl) (by kernel_rfl) (fun _ => rfl) (Nat.le_of_ble_eq_true (by kernel_rfl)) ?_; unfold Tryz.f153; simp only [Option.get!_some]
  repeat (first | (simp only [go_sem, Nat.reduceEqDiff, Nat.reduceAdd, Nat.reduceSub, Nat.reduceMul, Nat.reduceLeDiff, Nat.reduceLT, reduceIte, reduceCtorEq, Nat.succ_ne_zero, elemsC, Int.reduceToNat, Nat.reducePow]) | (simp (disch := (first | omega | (simp only [AL, List.length_map]; omega))) only [AR, AL, ifT, ifF, take_all, List.length_cons, List.length_nil, Int.reduceToNat, Int.reducePow, Nat.reducePow]) | (refine wk_intro (by kernel_rfl) ?_) | (refine vf_of (by first | exact o | exact f | exact o2) ?_))
theorem ref4_pow2 {n : Nat} (h : n ≤ 4096) : Go.Ev.Fn CX 183 [.int .i64 (n : Int)] (natV (lim (2 ^ n))) := by
  have s := ref1_shift_up (lim 1) n (okL_lim _) (by rw [lim_one]; simp) _ rfl h
  rw [wth_lim, Nat.one_mul, lim_one] at s
  refine Go.Ev.Fn.intro (fn := Tryz.f183) (body := (Tryz.f183).body.get!) (by kernel_rfl) (by kernel_rfl) (by kernel_rfl) (fun _ => rfl) (Nat.le_of_ble_eq_true (by kernel_rfl)) ?_; unfold Tryz.f183; simp only [Option.get!_some]
  repeat (first | (simp only [go_sem, Nat.reduceEqDiff, Nat.reduceAdd, Nat.reduceSub, Nat.reduceMul, Nat.reduceLeDiff, Nat.reduceLT, reduceIte, reduceCtorEq, Nat.succ_ne_zero, elemsC, Int.reduceToNat, Nat.reducePow]) | (simp (disch := (first | omega | (simp only [AL, List.length_map]; omega))) only [AR, AL, ifT, ifF, take_all, List.length_cons, List.length_nil, Int.reduceToNat, Int.reducePow, Nat.reducePow]) | (refine wk_intro (by kernel_rfl) ?_) | (refine vf_of (by first | exact s) ?_))
end Go.Proofs.YtemnjalaincijaaGreat

/- vernierref1: Shift downwards, Bits, in the evaluator. -/
namespace Go.Proofs.YtemnjalaincijaaGreat
set_option linter.unusedSimpArgs false
set_option linter.unusedVariables false
set_option maxRecDepth 8000
open Go.Ev
theorem wth_drop1 (b : List Nat) (i : Nat) : wth (b.drop i) = b.getD i 0 + 4294967296 * wth (b.drop (i + 1)) := by
  by_cases h : i < b.length
  · rw [List.drop_eq_getElem_cons h, List.getD_eq_getElem?_getD, List.getElem?_eq_getElem h]
    rfl
  · rw [List.drop_of_length_le (by omega), List.drop_of_length_le (by omega), getD_ge (by omega)]
    simp [wth]
theorem wth_shr_drop {a : List Nat} (ha : okL a) (m : Nat) : wth a / 2 ^ m = wth (a.drop (m / 32)) / 2 ^ (m % 32) := by
  have hpow : 2 ^ m = 4294967296 ^ (m / 32) * 2 ^ (m % 32) := pow_32 m
  rw [hpow, ← Nat.div_div_eq_div_mul]
  congr 1
  conv => lhs; rw [← List.take_append_drop (m / 32) a, wth_append]
  have h1 := wth_lt (okL_take ha (m / 32))
  rw [List.length_take] at h1 ⊢
  rcases Nat.lt_or_ge a.length (m / 32) with h2 | h2
  · rw [List.drop_of_length_le (by omega)]
    simp only [wth, Nat.mul_zero, Nat.add_zero]
    refine Nat.div_eq_of_lt (Nat.lt_of_lt_of_le h1 (Nat.pow_le_pow_right (by omega) (Nat.min_le_left _ _)))
  · rw [Nat.min_eq_left h2] at h1 ⊢
    rw [Nat.add_comm, Nat.mul_add_div (Nat.pow_pos (by omega)), Nat.div_eq_of_lt h1, Nat.add_zero]
theorem ref1_shift_down (xs : List Nat) (m : Nat) (hx : okL xs) (hl : xs.length ≤ 1073741824) (s : Int) (hs : s = -(m : Int)) (hm : m ≤ 4096) (hm0 : 0 < m) :
    Go.Ev.Fn CX 137 [natV xs, .int .i64 s] (natV (lim (wth xs / 2 ^ m))) := by
  refine Go.Ev.Fn.intro (fn := Tryz.f137) (body := (Tryz.f137).body.get!) (by kernel_rfl) (by kernel_rfl) (by kernel_rfl) (fun _ => rfl) (Nat.le_of_ble_eq_true (by kernel_rfl)) ?_; unfold Tryz.f137; simp only [Option.get!_some]
  have lx := lim_length_le hx
  have e1 : (if (-4096 : Int) > s then (-4096 : Int) else s) = s := if_neg (by omega)
  have e2 : (if (4096 : Int) < s then (4096 : Int) else s) = s := if_neg (by omega)
  have e3 : IntKind.i64.wrap (0 - s) = (m : Int) := by rw [wI64 (by omega)]; omega
  have hs0 : decide (s < 0) = true := by simp; omega
  repeat (first | (simp only [go_sem, Nat.reduceEqDiff, Nat.reduceAdd, Nat.reduceSub, Nat.reduceMul, Nat.reduceLeDiff, Nat.reduceLT, reduceIte, reduceCtorEq, Nat.succ_ne_zero, elemsC, Int.reduceToNat, Nat.reducePow, e1, e2, e3]) | (simp (disch := (first | omega | (simp only [AL, List.length_map]; omega))) only [AR, AL, ifT, ifF, take_all, List.length_cons, List.length_nil, Int.reduceToNat, Int.reducePow, Nat.reducePow, e1, e2, e3]) | (refine wk_intro (by kernel_rfl) ?_) | (refine vp_draw (l := []) (by kernel_rfl) ?_))
  have ha := okL_lim (wth xs)
  refine vf_of (ref1_Trim xs hx (by omega)) ?_; repeat (first | (simp only [go_sem, Nat.reduceEqDiff, Nat.reduceAdd, Nat.reduceSub, Nat.reduceMul, Nat.reduceLeDiff, Nat.reduceLT, reduceIte, reduceCtorEq, Nat.succ_ne_zero, elemsC, Int.reduceToNat, Nat.reducePow, e1, e2, e3, tdiv32, tmod32, hs0]) | (simp (disch := (first | omega | (simp only [AL, List.length_map]; omega))) only [AR, AL, ifT, ifF, take_all, List.length_cons, List.length_nil, Int.reduceToNat, Int.reducePow, Nat.reducePow, e1, e2, e3, tdiv32, tmod32, hs0]) | (refine wk_intro (by kernel_rfl) ?_))
  have va := wth_lim (wth xs)
  generalize lim (wth xs) = a at *
  have hk : m % 32 < 32 := Nat.mod_lt _ (by omega)
  rw [← va, wth_shr_drop ha]
  by_cases hlen : a.length ≤ m / 32
  · rw [List.drop_of_length_le hlen]
    have e0 : lim (wth [] / 2 ^ (m % 32)) = [] := by simp [wth, lim_zero]
    rw [e0]
    repeat (first | (simp only [go_sem, Nat.reduceEqDiff, Nat.reduceAdd, Nat.reduceSub, Nat.reduceMul, Nat.reduceLeDiff, Nat.reduceLT, reduceIte, reduceCtorEq, Nat.succ_ne_zero, elemsC, Int.reduceToNat, Nat.reducePow, e3, tdiv32, tmod32]) | (simp (disch := (first | omega | (simp only [AL, List.length_map]; omega))) only [AR, AL, ifT, ifF, take_all, List.length_cons, List.length_nil, Int.reduceToNat, Int.reducePow, Nat.reducePow, e3, tdiv32, tmod32]) | (refine wk_intro (by kernel_rfl) ?_))
    rfl
  · repeat (first | (simp only [go_sem, Nat.reduceEqDiff, Nat.reduceAdd, Nat.reduceSub, Nat.reduceMul, Nat.reduceLeDiff, Nat.reduceLT, reduceIte, reduceCtorEq, Nat.succ_ne_zero, elemsC, Int.reduceToNat, Nat.reducePow, e3, tdiv32, tmod32]) | (simp (disch := (first | omega | (simp only [AL, List.length_map]; omega))) only [AR, AL, ifT, ifF, take_all, List.length_cons, List.length_nil, Int.reduceToNat, Int.reducePow, Nat.reducePow, e3, tdiv32, tmod32]) | (refine wk_intro (by kernel_rfl) ?_))
    have hbl : (a.drop (m / 32)).length = a.length - m / 32 := List.length_drop ..
    have hb := okL_drop ha (m / 32)
    have hnl : a.length - m / 32 ≤ 1073741824 := by omega
    have hpos : 0 < a.length - m / 32 := by omega
    generalize a.drop (m / 32) = b at *
    generalize a.length - m / 32 = n at *
    subst hbl
    generalize m % 32 = k at *
    clear e1 e2 e3 hs0 va lx hx hl
    refine vp_loop_inv (fun s' => s'.tmp 5 = .sv (natV b) ∧ s'.tmp 7 = .sv (.int .u64 k) ∧
        ∃ c : List Nat, ∃ i : Nat, s'.tmp 9 = .sv (.int .i64 i) ∧ c.length = i ∧ okL c ∧ i ≤ b.length ∧ wth c + 4294967296 ^ i * (wth (b.drop i) / 2 ^ k) = wth b / 2 ^ k ∧
          ((i = 0 ∧ s'.tmp 8 = .nil ∧ s'.gen 56 = 0) ∨ (0 < i ∧ s'.tmp 8 = .ref 56 0 1 0 i ∧ s'.obj 56 0 = some (c.map limb))))
      (fun s => match s.tmp 9 with | .sv (.int _ i) => b.length - i.toNat | _ => 0) ⟨rfl, rfl, [], 0, rfl, rfl, okL_nil, by omega, by simp [wth], .inl ⟨rfl, rfl, rfl⟩⟩ ?_
    rintro s' ⟨i5, i7, c, i, i9, hcl, hc, hi, hv, hcase⟩
    by_cases hend : i = b.length
    · subst hend
      rw [List.drop_of_length_le (Nat.le_refl _), show wth [] / 2 ^ k = 0 by simp [wth], Nat.mul_zero, Nat.add_zero] at hv
      rcases hcase with ⟨h0, i8, -⟩ | ⟨h0, i8, iO⟩
      · omega
      · repeat (first | (simp only [go_sem, Nat.reduceEqDiff, Nat.reduceAdd, Nat.reduceSub, Nat.reduceMul, Nat.reduceLeDiff, Nat.reduceLT, reduceIte, reduceCtorEq, Nat.succ_ne_zero, elemsC, Int.reduceToNat, Nat.reducePow, i5, i7, i9, i8, iO]) | (simp (disch := (first | omega | (simp only [AL, List.length_map]; omega))) only [AR, AL, ifT, ifF, take_all, List.length_cons, List.length_nil, Int.reduceToNat, Int.reducePow, Nat.reducePow, i5, i7, i9, i8, iO]) | (refine wk_intro (by kernel_rfl) ?_) | (refine vp_draw (l := []) (by kernel_rfl) ?_))
        refine vf_of (fn_natV (ref1_Trim c hc (by omega)) hcl) ?_; repeat (first | (simp only [go_sem, Nat.reduceEqDiff, Nat.reduceAdd, Nat.reduceSub, Nat.reduceMul, Nat.reduceLeDiff, Nat.reduceLT, reduceIte, reduceCtorEq, Nat.succ_ne_zero, elemsC, Int.reduceToNat, Nat.reducePow, i5, i7, i9, i8, iO]) | (simp (disch := (first | omega | (simp only [AL, List.length_map]; omega))) only [AR, AL, ifT, ifF, take_all, List.length_cons, List.length_nil, Int.reduceToNat, Int.reducePow, Nat.reducePow, i5, i7, i9, i8, iO]) | (refine wk_intro (by kernel_rfl) ?_) | (refine vp_draw (l := []) (by kernel_rfl) ?_))
        rw [hv]
    · have h1 := getD_lt hb i
      have h2 := getD_lt hb (i + 1)
      have a1 := ref1_at b i hb (by omega) (by omega)
      have a2 := ref1_at b (i + 1) hb (by omega) (by omega)
      rw [show ((i + 1 : Nat) : Int) = (i : Int) + 1 from rfl] at a2
      have d1 := wth_drop1 b i
      have d2 := wth_drop1 b (i + 1)
      obtain ⟨g1, g2⟩ := (shr_limb hk (d1.trans (by rw [d2]))).resolve_right (not_not_intro h1)
      rw [← d2] at g2
      generalize hxx : b.getD i 0 = x at *
      generalize hyy : b.getD (i + 1) 0 = y at *
      have hsplit := Nat.mod_add_div (wth (b.drop i) / 2 ^ k) 4294967296
      rw [g1, g2] at hsplit
      have hv2 : ∀ v, v = (x + 4294967296 * y) / 2 ^ k % 4294967296 → wth (c ++ [v]) + 4294967296 ^ (i + 1) * (wth (b.drop (i + 1)) / 2 ^ k) = wth b / 2 ^ k := by
        rintro v rfl
        rw [wth_snoc, hcl, ← hv, ← hsplit, Nat.pow_succ, Nat.mul_add, Nat.mul_assoc, Nat.add_assoc]
      have hj : bitsSV .or .u64 ((x : Nat) : Int) ((y * 4294967296 : Nat) : Int) = some (.int .u64 ((x + 4294967296 * y : Nat) : Int)) := by
        rw [b_or64 (by omega) (by omega), or_high h1]
      have hw64 : y * 4294967296 % 18446744073709551616 = y * 4294967296 := Nat.mod_eq_of_lt (by omega)
      have hk64 : min k 64 = k := by omega
      have hz : (x + 4294967296 * y) / 2 ^ k % 4294967296 < 4294967296 := Nat.mod_lt _ (by omega)
      clear hsplit g1 g2 d1 d2 hv
      rcases hcase with ⟨h0, i8, ig⟩ | ⟨h0, i8, iO⟩
      · repeat (first | (simp only [go_sem, Nat.reduceEqDiff, Nat.reduceAdd, Nat.reduceSub, Nat.reduceMul, Nat.reduceLeDiff, Nat.reduceLT, reduceIte, reduceCtorEq, Nat.succ_ne_zero, elemsC, Int.reduceToNat, Nat.reducePow, i5, i7, i9, i8, ig]) | (simp (disch := (first | omega | (simp only [AL, List.length_map]; omega))) only [AR, AL, ifT, ifF, take_all, List.length_cons, List.length_nil, Int.reduceToNat, Int.reducePow, Nat.reducePow, i5, i7, i9, i8, ig]) | (refine wk_intro (by kernel_rfl) ?_) | (refine vp_draw (l := []) (by kernel_rfl) ?_))
        repeat (first | (simp only [go_sem, Nat.reduceEqDiff, Nat.reduceAdd, Nat.reduceSub, Nat.reduceMul, Nat.reduceLeDiff, Nat.reduceLT, reduceIte, reduceCtorEq, Nat.succ_ne_zero, elemsC, Int.reduceToNat, Nat.reducePow, i5, i7, i9, i8, ig, hj, hw64, hk64, N0]) | (simp (disch := (first | omega | (simp only [AL, List.length_map]; omega))) only [AR, AL, ifT, ifF, take_all, List.length_cons, List.length_nil, Int.reduceToNat, Int.reducePow, Nat.reducePow, i5, i7, i9, i8, ig, hj, hw64, hk64, N0]) | (refine wk_intro (by kernel_rfl) ?_) | (refine vp_draw (l := []) (by kernel_rfl) ?_) | (refine vf_of (by first | exact a1 | exact a2) ?_))
        subst h0
        obtain rfl := List.length_eq_zero_iff.1 hcl
        exact ⟨⟨[] ++ [(x + 4294967296 * y) / 2 ^ k % 4294967296], 1, rfl, rfl, okL_append.2 ⟨hc, okL_cons.2 ⟨hz, okL_nil⟩⟩, by omega, hv2 _ rfl, .inr ⟨by omega, rfl, rfl⟩⟩, by omega⟩
      · repeat (first | (simp only [go_sem, Nat.reduceEqDiff, Nat.reduceAdd, Nat.reduceSub, Nat.reduceMul, Nat.reduceLeDiff, Nat.reduceLT, reduceIte, reduceCtorEq, Nat.succ_ne_zero, elemsC, Int.reduceToNat, Nat.reducePow, i5, i7, i9, i8, iO]) | (simp (disch := (first | omega | (simp only [AL, List.length_map]; omega))) only [AR, AL, ifT, ifF, take_all, List.length_cons, List.length_nil, Int.reduceToNat, Int.reducePow, Nat.reducePow, i5, i7, i9, i8, iO]) | (refine wk_intro (by kernel_rfl) ?_) | (refine vp_draw (l := []) (by kernel_rfl) ?_))
        repeat (first | (simp only [go_sem, Nat.reduceEqDiff, Nat.reduceAdd, Nat.reduceSub, Nat.reduceMul, Nat.reduceLeDiff, Nat.reduceLT, reduceIte, reduceCtorEq, Nat.succ_ne_zero, elemsC, Int.reduceToNat, Nat.reducePow, i5, i7, i9, i8, iO, hj, hw64, hk64, N0]) | (simp (disch := (first | omega | (simp only [AL, List.length_map]; omega))) only [AR, AL, ifT, ifF, take_all, List.length_cons, List.length_nil, Int.reduceToNat, Int.reducePow, Nat.reducePow, i5, i7, i9, i8, iO, hj, hw64, hk64, N0]) | (refine wk_intro (by kernel_rfl) ?_) | (refine vp_draw (l := []) (by kernel_rfl) ?_) | (refine vf_of (by first | exact a1 | exact a2) ?_))
        exact ⟨⟨c ++ [(x + 4294967296 * y) / 2 ^ k % 4294967296], i + 1, rfl, by rw [List.length_append, hcl]; rfl, okL_append.2 ⟨hc, okL_cons.2 ⟨hz, okL_nil⟩⟩, by omega, hv2 _ rfl, .inr ⟨by omega, rfl, by rw [List.map_append]; rfl⟩⟩, by omega⟩
theorem ref1_shl {N m : Nat} (h : (lim N).length ≤ 1073741824) (hm : m ≤ 4096) : Go.Ev.Fn CX 137 [natV (lim N), .int .i64 (m : Int)] (natV (lim (N * 2 ^ m))) := by
  have := ref1_shift_up (lim N) m (okL_lim _) h _ rfl hm
  rwa [wth_lim] at this
theorem ref1_shr {N m : Nat} (h : (lim N).length ≤ 1073741824) (hm : m ≤ 4096) (h0 : 0 < m) : Go.Ev.Fn CX 137 [natV (lim N), .int .i64 (-(m : Int))] (natV (lim (N / 2 ^ m))) := by
  have := ref1_shift_down (lim N) m (okL_lim _) h _ rfl hm h0
  rwa [wth_lim] at this
end Go.Proofs.YtemnjalaincijaaGreat

/- vernierref4: Less, More, Num, Sum, Minus, Often, By, Wide, Most, Back, Rat, Ball, in the evaluator. -/
namespace Go.Proofs.YtemnjalaincijaaGreat
set_option linter.unusedSimpArgs false
set_option linter.unusedVariables false
set_option maxRecDepth 8000
open Go.Ev
theorem bne_dec (z : Int) : (z != 0) = decide (z ≠ 0) := by by_cases h : z = 0 <;> simp [h]
theorem cmpN_ne {a b : Nat} : (cmpN a b != 0) = decide (a ≠ b) := by
  rw [bne_dec]
  exact decide_eq_decide.2 (by unfold cmpN; split <;> (try split) <;> omega)
theorem ref4_Less (a : Int) (n : Nat) (ha : (lim a.natAbs).length ≤ 100000) (hn : n ≤ 4096) (h0 : 0 < n) : Go.Ev.Fn CX 141 [intV a, .int .i64 (n : Int)] (intV (a / ((2 ^ n : Nat) : Int))) := by
  have hd : 2 ^ n ≠ 0 := Nat.ne_of_gt (Nat.pow_pos (by omega))
  have s1 := ref1_shr (N := a.natAbs) (m := n) (by omega) hn h0
  have l := lim_len_mono (Nat.div_le_self a.natAbs (2 ^ n))
  have l1 := lim_len1
  have s2 := ref1_AddL (N := a.natAbs / 2 ^ n) (D := 1) (by omega) (by omega)
  rw [lim_one] at s2
  have s3 := ref1_shl (N := a.natAbs / 2 ^ n) (m := n) (by omega) hn
  have l3 := lim_len_shl (a := a.natAbs / 2 ^ n) (n := n)
  have c := ref1_CmpL (N := a.natAbs / 2 ^ n * 2 ^ n) (D := a.natAbs) (by omega) (by omega)
  have e2 : (cmpN (a.natAbs / 2 ^ n * 2 ^ n) a.natAbs != 0) = decide (a.natAbs % 2 ^ n ≠ 0) := by
    rw [cmpN_ne]
    refine decide_eq_decide.2 ?_
    have := Nat.div_add_mod a.natAbs (2 ^ n)
    rw [Nat.mul_comm (2 ^ n)] at this
    omega
  have hl := fun (n : Nat) => lenpos (n := n)
  have l5 := lim_len_add (a := a.natAbs / 2 ^ n) (b := 1) (L := 100000) (by omega) (by omega)
  have e := fall_eq (a := a) hd
  have e0 : (0 : Int) - (n : Int) = -(n : Int) := by omega
  generalize 2 ^ n = D at *
  by_cases h : a < 0
  · by_cases h2 : a.natAbs % D = 0
    · rw [if_neg (fun g => g.2 h2)] at e
      rw [e, sgn_iv, decide_eq_true h]
      rw [h2] at e2
      have h0' : decide ((0 : Nat) ≠ 0) = false := rfl
      rw [h0'] at e2
      generalize cmpN (a.natAbs / D * D) a.natAbs = z at *
      generalize a.natAbs / D * D = y at *
      generalize a.natAbs / D = x at *
      refine Go.Ev.Fn.intro (fn := Tryz.f141) (body := (Tryz.f141).body.get!) (by kernel_rfl) (by kernel_rfl) (by kernel_rfl) (fun _ => rfl) (Nat.le_of_ble_eq_true (by kernel_rfl)) ?_; unfold Tryz.f141; simp only [Option.get!_some]
      repeat (first | (simp only [go_sem, Nat.reduceEqDiff, Nat.reduceAdd, Nat.reduceSub, Nat.reduceMul, Nat.reduceLeDiff, Nat.reduceLT, reduceIte, reduceCtorEq, Nat.succ_ne_zero, elemsC, Int.reduceToNat, Nat.reducePow, hl, e0, Bool.true_and, e2]) | (simp (disch := (first | omega | (simp only [AL, List.length_map]; omega))) only [AR, AL, ifT, ifF, take_all, List.length_cons, List.length_nil, Int.reduceToNat, Int.reducePow, Nat.reducePow, hl, e0, Bool.true_and, e2]) | (refine wk_intro (by kernel_rfl) ?_) | (refine vp_draw (id := 2) (l := [5, 16, 18]) (by kernel_rfl) ?_) | (refine vf_of (by first | exact s1 | exact s3 | exact c) ?_))
    · rw [if_pos ⟨h, h2⟩] at e
      rw [e, show -((a.natAbs / D + 1 : Nat) : Int) = sgn true (a.natAbs / D + 1) from rfl, sgn_iv]
      rw [decide_eq_true h2] at e2
      generalize cmpN (a.natAbs / D * D) a.natAbs = z at *
      generalize a.natAbs / D * D = y at *
      generalize a.natAbs / D + 1 = x' at *
      generalize a.natAbs / D = x at *
      refine Go.Ev.Fn.intro (fn := Tryz.f141) (body := (Tryz.f141).body.get!) (by kernel_rfl) (by kernel_rfl) (by kernel_rfl) (fun _ => rfl) (Nat.le_of_ble_eq_true (by kernel_rfl)) ?_; unfold Tryz.f141; simp only [Option.get!_some]
      repeat (first | (simp only [go_sem, Nat.reduceEqDiff, Nat.reduceAdd, Nat.reduceSub, Nat.reduceMul, Nat.reduceLeDiff, Nat.reduceLT, reduceIte, reduceCtorEq, Nat.succ_ne_zero, elemsC, Int.reduceToNat, Nat.reducePow, hl, e0, Bool.true_and, e2]) | (simp (disch := (first | omega | (simp only [AL, List.length_map]; omega))) only [AR, AL, ifT, ifF, take_all, List.length_cons, List.length_nil, Int.reduceToNat, Int.reducePow, Nat.reducePow, hl, e0, Bool.true_and, e2]) | (refine wk_intro (by kernel_rfl) ?_) | (refine vp_draw (id := 2) (l := [5, 16, 18]) (by kernel_rfl) ?_) | (refine vf_of (by first | exact s1 | exact s3 | exact c | exact s2) ?_))
  · rw [if_neg (fun g => h g.1)] at e
    rw [e, sgn_iv, decide_eq_false h]
    generalize a.natAbs / D = x at *
    refine Go.Ev.Fn.intro (fn := Tryz.f141) (body := (Tryz.f141).body.get!) (by kernel_rfl) (by kernel_rfl) (by kernel_rfl) (fun _ => rfl) (Nat.le_of_ble_eq_true (by kernel_rfl)) ?_; unfold Tryz.f141; simp only [Option.get!_some]
    repeat (first | (simp only [go_sem, Nat.reduceEqDiff, Nat.reduceAdd, Nat.reduceSub, Nat.reduceMul, Nat.reduceLeDiff, Nat.reduceLT, reduceIte, reduceCtorEq, Nat.succ_ne_zero, elemsC, Int.reduceToNat, Nat.reducePow, hl, e0, Bool.false_and]) | (simp (disch := (first | omega | (simp only [AL, List.length_map]; omega))) only [AR, AL, ifT, ifF, take_all, List.length_cons, List.length_nil, Int.reduceToNat, Int.reducePow, Nat.reducePow, hl, e0, Bool.false_and]) | (refine wk_intro (by kernel_rfl) ?_) | (refine vp_draw (id := 2) (l := [5, 16, 18]) (by kernel_rfl) ?_) | (refine vf_of (by first | exact s1) ?_))
theorem ref4_More (a : Int) (n : Nat) (ha : (lim a.natAbs).length ≤ 100000) (hn : n ≤ 4096) (h0 : 0 < n) : Go.Ev.Fn CX 160 [intV a, .int .i64 (n : Int)] (intV (cdZ a (2 ^ n))) := by
  have hd : 2 ^ n ≠ 0 := Nat.ne_of_gt (Nat.pow_pos (by omega))
  have o := ref4_Opp a (by omega)
  have f := ref4_Less (-a) n (by rw [Int.natAbs_neg]; exact ha) hn h0
  have l := lim_len_mono (abs_div_le (-a) hd)
  rw [Int.natAbs_neg a] at l
  have o2 := ref4_Opp (-a / ((2 ^ n : Nat) : Int)) (by omega)
  unfold cdZ
  generalize -a / ((2 ^ n : Nat) : Int) = y at *
  refine Go.Ev.Fn.intro (fn := Tryz.f160) (body := (Tryz.f160).body.get!) (by kernel_rfl) (by kernel_rfl) (by kernel_rfl) (fun _ => rfl) (Nat.le_of_ble_eq_true (by kernel_rfl)) ?_; unfold Tryz.f160; simp only [Option.get!_some]
  repeat (first | (simp only [go_sem, Nat.reduceEqDiff, Nat.reduceAdd, Nat.reduceSub, Nat.reduceMul, Nat.reduceLeDiff, Nat.reduceLT, reduceIte, reduceCtorEq, Nat.succ_ne_zero, elemsC, Int.reduceToNat, Nat.reducePow]) | (simp (disch := (first | omega | (simp only [AL, List.length_map]; omega))) only [AR, AL, ifT, ifF, take_all, List.length_cons, List.length_nil, Int.reduceToNat, Int.reducePow, Nat.reducePow]) | (refine wk_intro (by kernel_rfl) ?_) | (refine vf_of (by first | exact o | exact f | exact o2) ?_))
theorem mul_p2_abs (z : Int) (w : Nat) : (z * ((2 ^ w : Nat) : Int)).natAbs = z.natAbs * 2 ^ w := by rw [Int.natAbs_mul, Int.natAbs_natCast]
theorem ref4_Num {v : SV} {q : Rat} {L w : Nat} (hv : RatA v q L) (hL1 : 1 ≤ L) (hL : L ≤ 100000) (hw : w ≤ 4096) : Go.Ev.Fn CX 98 [v, .int .i64 (w : Int)] (ivV (q.num * ((2 ^ w : Nat) : Int) / (q.den : Int)) (cdZ (q.num * ((2 ^ w : Nat) : Int)) q.den)) := by
  have n1 := ref2_Norm hv (by omega)
  obtain ⟨z1, z2⟩ := szR_of hv hL1
  have s1 := ref1_shl (N := q.num.natAbs) (m := w) (by omega) hw
  have l1 := lim_len_shl (a := q.num.natAbs) (n := w)
  have hP : 0 < 2 ^ w := Nat.pow_pos (by omega)
  have ea := mul_p2_abs q.num w
  have en : decide (q.num * ((2 ^ w : Nat) : Int) < 0) = decide (q.num < 0) := decide_eq_decide.2 ⟨fun h => by
      rcases Int.lt_or_le q.num 0 with g | g
      · exact g
      · have := Int.mul_nonneg g (Int.natCast_nonneg (2 ^ w)); omega, fun h => Int.mul_neg_of_neg_of_pos h (by omega)⟩
  have f := ref4_Fall (q.num * ((2 ^ w : Nat) : Int)) q.den q.den_nz (by rw [ea]; omega) (by omega)
  have r := ref4_Rise (q.num * ((2 ^ w : Nat) : Int)) q.den q.den_nz (by rw [ea]; omega) (by omega)
  unfold intV at f r
  rw [ea, en] at f r
  obtain ⟨s, n, d, rfl, -⟩ := hv
  generalize q.num * ((2 ^ w : Nat) : Int) / (q.den : Int) = x at *
  generalize cdZ (q.num * ((2 ^ w : Nat) : Int)) q.den = y at *
  generalize q.num.natAbs * 2 ^ w = u at *
  refine Go.Ev.Fn.intro (fn := Tryz.f98) (body := (Tryz.f98).body.get!) (by kernel_rfl) (by kernel_rfl) (by kernel_rfl) (fun _ => rfl) (Nat.le_of_ble_eq_true (by kernel_rfl)) ?_; unfold Tryz.f98; simp only [Option.get!_some]
  repeat (first | (simp only [go_sem, Nat.reduceEqDiff, Nat.reduceAdd, Nat.reduceSub, Nat.reduceMul, Nat.reduceLeDiff, Nat.reduceLT, reduceIte, reduceCtorEq, Nat.succ_ne_zero, elemsC, Int.reduceToNat, Nat.reducePow]) | (simp (disch := (first | omega | (simp only [AL, List.length_map]; omega))) only [AR, AL, ifT, ifF, take_all, List.length_cons, List.length_nil, Int.reduceToNat, Int.reducePow, Nat.reducePow]) | (refine wk_intro (by kernel_rfl) ?_) | (refine vp_draw (id := 2) (l := [12]) (by kernel_rfl) ?_) | (refine vp_draw (id := 3) (l := [18, 22]) (by kernel_rfl) ?_) | (refine vf_of (by first | exact n1 | exact s1 | exact f | exact r) ?_))
section
variable {a b c d : Int} (ha : (lim a.natAbs).length ≤ 100000) (hb : (lim b.natAbs).length ≤ 100000) (hc : (lim c.natAbs).length ≤ 100000) (hd : (lim d.natAbs).length ≤ 100000)
include ha hb
theorem ref4_Sum (hc : (lim c.natAbs).length ≤ 100000) (hd : (lim d.natAbs).length ≤ 100000) : Go.Ev.Fn CX 99 [ivV a b, ivV c d] (ivV (a + c) (b + d)) := by
  have s1 := ref4_Plus a c (by omega) (by omega)
  have s2 := ref4_Plus b d (by omega) (by omega)
  generalize a + c = x at *
  generalize b + d = y at *
  refine Go.Ev.Fn.intro (fn := Tryz.f99) (body := (Tryz.f99).body.get!) (by kernel_rfl) (by kernel_rfl) (by kernel_rfl) (fun _ => rfl) (Nat.le_of_ble_eq_true (by kernel_rfl)) ?_; unfold Tryz.f99; simp only [Option.get!_some]
  repeat (first | (simp only [go_sem, Nat.reduceEqDiff, Nat.reduceAdd, Nat.reduceSub, Nat.reduceMul, Nat.reduceLeDiff, Nat.reduceLT, reduceIte, reduceCtorEq, Nat.succ_ne_zero, elemsC, Int.reduceToNat, Nat.reducePow]) | (simp (disch := (first | omega | (simp only [AL, List.length_map]; omega))) only [AR, AL, ifT, ifF, take_all, List.length_cons, List.length_nil, Int.reduceToNat, Int.reducePow, Nat.reducePow]) | (refine wk_intro (by kernel_rfl) ?_) | (refine vp_draw (id := 1) (l := []) (by kernel_rfl) ?_) | (refine vf_of (by first | exact s1 | exact s2) ?_))
theorem ref4_Minus (hc : (lim c.natAbs).length ≤ 100000) (hd : (lim d.natAbs).length ≤ 100000) : Go.Ev.Fn CX 194 [ivV a b, ivV c d] (ivV (a - d) (b - c)) := by
  have o1 := ref4_Opp d (by omega)
  have o2 := ref4_Opp c (by omega)
  have s1 := ref4_Plus a (-d) (by omega) (by rw [Int.natAbs_neg]; omega)
  have s2 := ref4_Plus b (-c) (by omega) (by rw [Int.natAbs_neg]; omega)
  rw [← Int.sub_eq_add_neg] at s1 s2
  generalize a - d = x at *
  generalize b - c = y at *
  refine Go.Ev.Fn.intro (fn := Tryz.f194) (body := (Tryz.f194).body.get!) (by kernel_rfl) (by kernel_rfl) (by kernel_rfl) (fun _ => rfl) (Nat.le_of_ble_eq_true (by kernel_rfl)) ?_; unfold Tryz.f194; simp only [Option.get!_some]
  repeat (first | (simp only [go_sem, Nat.reduceEqDiff, Nat.reduceAdd, Nat.reduceSub, Nat.reduceMul, Nat.reduceLeDiff, Nat.reduceLT, reduceIte, reduceCtorEq, Nat.succ_ne_zero, elemsC, Int.reduceToNat, Nat.reducePow]) | (simp (disch := (first | omega | (simp only [AL, List.length_map]; omega))) only [AR, AL, ifT, ifF, take_all, List.length_cons, List.length_nil, Int.reduceToNat, Int.reducePow, Nat.reducePow]) | (refine wk_intro (by kernel_rfl) ?_) | (refine vp_draw (id := 1) (l := []) (by kernel_rfl) ?_) | (refine vf_of (by first | exact o1 | exact s1 | exact o2 | exact s2) ?_))
theorem ref4_Often (n : Int) (hn : -4294967296 < n ∧ n < 4294967296) : Go.Ev.Fn CX 103 [ivV a b, .int .i64 n] (ivV (a * n) (b * n)) := by
  have w := ref4_Whole n (by omega)
  have l : (lim n.natAbs).length ≤ 1 := lim_len_one (by omega)
  have s1 := ref4_Times a n (by omega) (by omega)
  have s2 := ref4_Times b n (by omega) (by omega)
  generalize a * n = x at *
  generalize b * n = y at *
  refine Go.Ev.Fn.intro (fn := Tryz.f103) (body := (Tryz.f103).body.get!) (by kernel_rfl) (by kernel_rfl) (by kernel_rfl) (fun _ => rfl) (Nat.le_of_ble_eq_true (by kernel_rfl)) ?_; unfold Tryz.f103; simp only [Option.get!_some]
  repeat (first | (simp only [go_sem, Nat.reduceEqDiff, Nat.reduceAdd, Nat.reduceSub, Nat.reduceMul, Nat.reduceLeDiff, Nat.reduceLT, reduceIte, reduceCtorEq, Nat.succ_ne_zero, elemsC, Int.reduceToNat, Nat.reducePow]) | (simp (disch := (first | omega | (simp only [AL, List.length_map]; omega))) only [AR, AL, ifT, ifF, take_all, List.length_cons, List.length_nil, Int.reduceToNat, Int.reducePow, Nat.reducePow]) | (refine wk_intro (by kernel_rfl) ?_) | (refine vp_draw (id := 1) (l := []) (by kernel_rfl) ?_) | (refine vf_of (by first | exact w | exact s1 | exact s2) ?_))
theorem ref4_By (n : Nat) (h0 : 0 < n) (hn : n < 9223372036854775808) : Go.Ev.Fn CX 184 [ivV a b, .int .i64 (n : Int)] (ivV (a / (n : Int)) (cdZ b n)) := by
  have o := ref1_Of n (by omega)
  have l : (lim n).length ≤ 2 := lim_len_lt (by omega)
  have f := ref4_Fall a n (by omega) (by omega) (by omega)
  have r := ref4_Rise b n (by omega) (by omega) (by omega)
  generalize a / (n : Int) = x at *
  generalize cdZ b n = y at *
  refine Go.Ev.Fn.intro (fn := Tryz.f184) (body := (Tryz.f184).body.get!) (by kernel_rfl) (by kernel_rfl) (by kernel_rfl) (fun _ => rfl) (Nat.le_of_ble_eq_true (by kernel_rfl)) ?_; unfold Tryz.f184; simp only [Option.get!_some]
  repeat (first | (simp only [go_sem, Nat.reduceEqDiff, Nat.reduceAdd, Nat.reduceSub, Nat.reduceMul, Nat.reduceLeDiff, Nat.reduceLT, reduceIte, reduceCtorEq, Nat.succ_ne_zero, elemsC, Int.reduceToNat, Nat.reducePow]) | (simp (disch := (first | omega | (simp only [AL, List.length_map]; omega))) only [AR, AL, ifT, ifF, take_all, List.length_cons, List.length_nil, Int.reduceToNat, Int.reducePow, Nat.reducePow]) | (refine wk_intro (by kernel_rfl) ?_) | (refine vp_draw (id := 2) (l := [5, 5]) (by kernel_rfl) ?_) | (refine vf_of (by first | exact o | exact f | exact r) ?_))
theorem ref4_Wide (n : Int) (hn : -4294967296 < n ∧ n < 4294967296) : Go.Ev.Fn CX 186 [ivV a b, .int .i64 n] (ivV (a - n) (b + n)) := by
  have w1 := ref4_Whole (-n) (by omega)
  have w2 := ref4_Whole n (by omega)
  have l : (lim n.natAbs).length ≤ 1 := lim_len_one (by omega)
  have s1 := ref4_Plus a (-n) (by omega) (by rw [Int.natAbs_neg]; omega)
  have s2 := ref4_Plus b n (by omega) (by omega)
  rw [← Int.sub_eq_add_neg] at s1
  have e0 : 0 - n = -n := by omega
  generalize a - n = x at *
  generalize b + n = y at *
  refine Go.Ev.Fn.intro (fn := Tryz.f186) (body := (Tryz.f186).body.get!) (by kernel_rfl) (by kernel_rfl) (by kernel_rfl) (fun _ => rfl) (Nat.le_of_ble_eq_true (by kernel_rfl)) ?_; unfold Tryz.f186; simp only [Option.get!_some]
  repeat (first | (simp only [go_sem, Nat.reduceEqDiff, Nat.reduceAdd, Nat.reduceSub, Nat.reduceMul, Nat.reduceLeDiff, Nat.reduceLT, reduceIte, reduceCtorEq, Nat.succ_ne_zero, elemsC, Int.reduceToNat, Nat.reducePow, e0]) | (simp (disch := (first | omega | (simp only [AL, List.length_map]; omega))) only [AR, AL, ifT, ifF, take_all, List.length_cons, List.length_nil, Int.reduceToNat, Int.reducePow, Nat.reducePow, e0]) | (refine wk_intro (by kernel_rfl) ?_) | (refine vp_draw (id := 1) (l := []) (by kernel_rfl) ?_) | (refine vf_of (by first | exact w1 | exact s1 | exact w2 | exact s2) ?_))
theorem ref4_Most : Go.Ev.Fn CX 185 [ivV a b] (intV ((max a.natAbs b.natAbs : Nat) : Int)) := by
  have c := ref4_Cmp (a.natAbs : Int) (b.natAbs : Int) (by rw [Int.natAbs_natCast]; exact ha) (by rw [Int.natAbs_natCast]; exact hb)
  have q : ∀ n : Nat, intV (n : Int) = .agg [.bool false, natV (lim n)] := fun n => iv_eq (Int.natAbs_natCast n) (decide_eq_false (by omega))
  rw [q, q] at c
  rw [q]
  by_cases h : b.natAbs < a.natAbs
  · have e : decide (cmpZ (a.natAbs : Int) (b.natAbs : Int) > 0) = true := decide_eq_true (by unfold cmpZ; rw [if_neg (by omega), if_neg (by omega)]; omega)
    rw [Nat.max_eq_left (by omega)]
    generalize cmpZ (a.natAbs : Int) (b.natAbs : Int) = z at *
    refine Go.Ev.Fn.intro (fn := Tryz.f185) (body := (Tryz.f185).body.get!) (by kernel_rfl) (by kernel_rfl) (by kernel_rfl) (fun _ => rfl) (Nat.le_of_ble_eq_true (by kernel_rfl)) ?_; unfold Tryz.f185; simp only [Option.get!_some]
    repeat (first | (simp only [go_sem, Nat.reduceEqDiff, Nat.reduceAdd, Nat.reduceSub, Nat.reduceMul, Nat.reduceLeDiff, Nat.reduceLT, reduceIte, reduceCtorEq, Nat.succ_ne_zero, elemsC, Int.reduceToNat, Nat.reducePow, e]) | (simp (disch := (first | omega | (simp only [AL, List.length_map]; omega))) only [AR, AL, ifT, ifF, take_all, List.length_cons, List.length_nil, Int.reduceToNat, Int.reducePow, Nat.reducePow, e]) | (refine wk_intro (by kernel_rfl) ?_) | (refine vp_draw (id := 1) (l := []) (by kernel_rfl) ?_) | (refine vf_of (by first | exact c) ?_))
  · have e : decide (cmpZ (a.natAbs : Int) (b.natAbs : Int) > 0) = false := decide_eq_false (by unfold cmpZ; split <;> (try split) <;> omega)
    rw [Nat.max_eq_right (by omega)]
    generalize cmpZ (a.natAbs : Int) (b.natAbs : Int) = z at *
    refine Go.Ev.Fn.intro (fn := Tryz.f185) (body := (Tryz.f185).body.get!) (by kernel_rfl) (by kernel_rfl) (by kernel_rfl) (fun _ => rfl) (Nat.le_of_ble_eq_true (by kernel_rfl)) ?_; unfold Tryz.f185; simp only [Option.get!_some]
    repeat (first | (simp only [go_sem, Nat.reduceEqDiff, Nat.reduceAdd, Nat.reduceSub, Nat.reduceMul, Nat.reduceLeDiff, Nat.reduceLT, reduceIte, reduceCtorEq, Nat.succ_ne_zero, elemsC, Int.reduceToNat, Nat.reducePow, e]) | (simp (disch := (first | omega | (simp only [AL, List.length_map]; omega))) only [AR, AL, ifT, ifF, take_all, List.length_cons, List.length_nil, Int.reduceToNat, Int.reducePow, Nat.reducePow, e]) | (refine wk_intro (by kernel_rfl) ?_) | (refine vp_draw (id := 1) (l := []) (by kernel_rfl) ?_) | (refine vf_of (by first | exact c) ?_))
theorem ref4_Back (n : Nat) (hn : n ≤ 4096) (h0 : 0 < n) : Go.Ev.Fn CX 105 [ivV a b, .int .i64 (n : Int)] (ivV (a / ((2 ^ n : Nat) : Int)) (cdZ b (2 ^ n))) := by
  have s1 := ref4_Less a n ha hn h0
  have s2 := ref4_More b n hb hn h0
  generalize a / ((2 ^ n : Nat) : Int) = x at *
  generalize cdZ b (2 ^ n) = y at *
  refine Go.Ev.Fn.intro (fn := Tryz.f105) (body := (Tryz.f105).body.get!) (by kernel_rfl) (by kernel_rfl) (by kernel_rfl) (fun _ => rfl) (Nat.le_of_ble_eq_true (by kernel_rfl)) ?_; unfold Tryz.f105; simp only [Option.get!_some]
  repeat (first | (simp only [go_sem, Nat.reduceEqDiff, Nat.reduceAdd, Nat.reduceSub, Nat.reduceMul, Nat.reduceLeDiff, Nat.reduceLT, reduceIte, reduceCtorEq, Nat.succ_ne_zero, elemsC, Int.reduceToNat, Nat.reducePow]) | (simp (disch := (first | omega | (simp only [AL, List.length_map]; omega))) only [AR, AL, ifT, ifF, take_all, List.length_cons, List.length_nil, Int.reduceToNat, Int.reducePow, Nat.reducePow]) | (refine wk_intro (by kernel_rfl) ?_) | (refine vp_draw (id := 1) (l := []) (by kernel_rfl) ?_) | (refine vf_of (by first | exact s1 | exact s2) ?_))
omit hb in
theorem ref4_Rat (w : Nat) (hw : w ≤ 4096) : Go.Ev.Fn CX 131 [intV a, .int .i64 (w : Int)] (rv (mkRat a (2 ^ w))) := by
  have p := ref4_pow2 (n := w) hw
  have l := lim_len_shl (a := 1) (n := w)
  have l1 := lim_len1
  rw [Nat.one_mul] at l
  have o := ref2_OfL (s := decide (a < 0)) (n := a.natAbs) (d := 2 ^ w) (by omega) (by omega)
  rw [sgn_self] at o
  generalize 2 ^ w = D at *
  refine Go.Ev.Fn.intro (fn := Tryz.f131) (body := (Tryz.f131).body.get!) (by kernel_rfl) (by kernel_rfl) (by kernel_rfl) (fun _ => rfl) (Nat.le_of_ble_eq_true (by kernel_rfl)) ?_; unfold Tryz.f131; simp only [Option.get!_some]
  repeat (first | (simp only [go_sem, Nat.reduceEqDiff, Nat.reduceAdd, Nat.reduceSub, Nat.reduceMul, Nat.reduceLeDiff, Nat.reduceLT, reduceIte, reduceCtorEq, Nat.succ_ne_zero, elemsC, Int.reduceToNat, Nat.reducePow]) | (simp (disch := (first | omega | (simp only [AL, List.length_map]; omega))) only [AR, AL, ifT, ifF, take_all, List.length_cons, List.length_nil, Int.reduceToNat, Int.reducePow, Nat.reducePow]) | (refine wk_intro (by kernel_rfl) ?_) | (refine vp_draw (id := 1) (l := [8, 10]) (by kernel_rfl) ?_) | (refine vf_of (by first | exact p | exact o) ?_))
theorem ref4_Ball (w : Nat) (hw : w ≤ 4096) : Go.Ev.Fn CX 68 [ivV a b, .int .i64 (w : Int)] (ballR (mkRat a (2 ^ w)) (mkRat b (2 ^ w))) := by
  have s1 := ref4_Rat ha w hw
  have s2 := ref4_Rat hb w hw
  generalize mkRat a (2 ^ w) = x at *
  generalize mkRat b (2 ^ w) = y at *
  refine Go.Ev.Fn.intro (fn := Tryz.f68) (body := (Tryz.f68).body.get!) (by kernel_rfl) (by kernel_rfl) (by kernel_rfl) (fun _ => rfl) (Nat.le_of_ble_eq_true (by kernel_rfl)) ?_; unfold Tryz.f68; simp only [Option.get!_some]
  repeat (first | (simp only [go_sem, Nat.reduceEqDiff, Nat.reduceAdd, Nat.reduceSub, Nat.reduceMul, Nat.reduceLeDiff, Nat.reduceLT, reduceIte, reduceCtorEq, Nat.succ_ne_zero, elemsC, Int.reduceToNat, Nat.reducePow]) | (simp (disch := (first | omega | (simp only [AL, List.length_map]; omega))) only [AR, AL, ifT, ifF, take_all, List.length_cons, List.length_nil, Int.reduceToNat, Int.reducePow, Nat.reducePow]) | (refine wk_intro (by kernel_rfl) ?_) | (refine vp_draw (id := 1) (l := []) (by kernel_rfl) ?_) | (refine vf_of (by first | exact s1 | exact s2) ?_))
end
end Go.Proofs.YtemnjalaincijaaGreat
