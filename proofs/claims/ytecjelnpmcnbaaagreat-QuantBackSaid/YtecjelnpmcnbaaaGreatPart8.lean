/- Part 8 of the proof: the evaluator, contracts of functions and their plain laws (joined by program). No condition. -/
import Derived.Test.YtecjelnpmcnbaaaGreatPart7
set_option linter.unusedVariables false
set_option linter.unusedSimpArgs false
set_option maxRecDepth 100000
namespace Go.Proofs.YtecjelnpmcnbaaaGreat
open Go.Ev
theorem times_le {x k : Nat} : (x + 1) * (2 * k) / (2 * k + 1) + 1 ≤ x + 2 := by
  have h : (x + 1) * (2 * k) / (2 * k + 1) ≤ x + 1 := (Nat.div_le_iff_le_mul (by omega)).2 (by have := Nat.mul_le_mul_left (x + 1) (show 2 * k ≤ 2 * k + 1 by omega); omega)
  omega
set_option maxHeartbeats 1000000 in
theorem arcs_angle {n d w A B : Nat} (hn : n ≤ 1000) (hd : d ≤ 1000) (hd0 : 0 < d) (hw : w ≤ 900) (hw0 : 0 < w) (h : angF n d w = some (A, B)) : Go.Ev.Fn CX 246 [natV (lim n), natV (lim d), .int .i64 (w : Int)] (spanV A B) := by
  unfold angF at h
  rw [pin_eq, pin_eq] at h
  have ln : (lim n).length ≤ 1 := lim_len_one (by omega)
  have ld : (lim d).length ≤ 1 := lim_len_one (by omega)
  have m1 := nat_MulL (N := n) (D := n) (by omega) (by omega)
  have m2 := nat_MulL (N := d) (D := d) (by omega) (by omega)
  have m3 := nat_MulL (N := n) (D := d) (by omega) (by omega)
  have lnn := lim_len_mul (a := n) (b := n)
  have ldd := lim_len_mul (a := d) (b := d)
  have lnd := lim_len_mul (a := n) (b := d)
  have s1 := nat_AddL (N := n * n) (D := d * d) (by omega) (by omega)
  have lsq := lim_len_add (a := n * n) (b := d * d) (L := 2) (by omega) (by omega)
  have hdd : 0 < d * d := Nat.mul_pos hd0 hd0
  have hnd : n * d ≤ n * n + d * d := by
    rcases Nat.le_total n d with g | g
    · have := Nat.mul_le_mul_right d g; omega
    · have := Nat.mul_le_mul_left n g; omega
  have o1 := fix_Of (n := n * n) (d := n * n + d * d) (w := w) (by omega) (by omega) (by omega) (by omega)
  have o2 := fix_Of (n := n * d) (d := n * n + d * d) (w := w) (by omega) (by omega) (by omega) (by omega)
  have hb1 : n * n * 2 ^ w / (n * n + d * d) < 2 ^ w := by
    rw [Nat.div_lt_iff_lt_mul (by omega), Nat.mul_comm (2 ^ w)]
    exact Nat.mul_lt_mul_of_pos_right (by omega) (Nat.pow_pos (by omega))
  have ht1 : n * d * 2 ^ w / (n * n + d * d) ≤ 2 ^ w := (Nat.div_le_iff_le_mul (by omega)).2 (by have := Nat.mul_le_mul_right (2 ^ w) hnd; rw [Nat.mul_comm (2 ^ w)]; omega)
  generalize n * n * 2 ^ w / (n * n + d * d) = b1 at *
  generalize n * d * 2 ^ w / (n * n + d * d) = t0 at *
  generalize n * n + d * d = sq at *
  generalize n * n = nn at *
  generalize d * d = dd at *
  generalize n * d = nd at *
  have hP : 0 < 2 ^ w := Nat.pow_pos (by omega)
  have lb := lim_len_p2 (n := b1) (w := w) (by omega) (by omega)
  have lb2 := lim_len_p2 (n := b1 + 1) (w := w) (by omega) (by omega)
  have big : 2 ^ w * 2048 = 2 ^ (w + 11) := by rw [Nat.pow_add]
  have big2 : 2 ^ (w + 11) * 2048 = 2 ^ (w + 22) := by rw [show w + 22 = (w + 11) + 11 by omega, Nat.pow_add 2 (w + 11) 11]
  refine Go.Ev.Fn.intro (fn := Tryz.f246) (body := (Tryz.f246).body.get!) (by kernel_rfl) (by kernel_rfl) (by kernel_rfl) (fun _ => rfl) (Nat.le_of_ble_eq_true (by kernel_rfl)) ?_; unfold Tryz.f246; simp only [Option.get!_some]
  repeat (first | (simp only [go_sem, Nat.reduceEqDiff, Nat.reduceAdd, Nat.reduceSub, Nat.reduceMul, Nat.reduceLeDiff, Nat.reduceLT, reduceIte, reduceCtorEq, Nat.succ_ne_zero, elemsC, Int.reduceToNat, Nat.reducePow]) | (simp (disch := (first | omega | (simp only [AL, List.length_map]; omega))) only [AR, AL, ifT, ifF, take_all, List.length_cons, List.length_nil, Int.reduceToNat, Int.reducePow, Nat.reducePow]) | (refine wk_intro (by kernel_rfl) ?_) | (refine vf_of (by first | exact m1 | exact m2 | exact s1 | exact o1 | exact m3 | exact o2) ?_))
  refine vp_loop_inv (fun s => s.tmp 2 = .sv (.int .i64 (w : Int)) ∧ s.tmp 6 = .ptr 6 0 0 ∧ s.obj 6 0 = some [.sl 0 [], .sl 0 []] ∧ s.tmp 8 = .ptr 8 0 0 ∧ s.obj 8 0 = some [natV (lim b1), natV (lim (b1 + 1))] ∧ s.tmp 9 = .ptr 9 0 0 ∧ s.tmp 10 = .ptr 10 0 0 ∧
      ∃ f k t1 t2 a1 a2 : Nat, s.tmp 11 = .sv (.int .u64 (k : Int)) ∧ f + k = 1001 ∧ 1 ≤ k ∧ angGo w b1 (b1 + 1) f k t1 t2 a1 a2 = some (A, B) ∧ s.obj 9 0 = some [natV (lim t1), natV (lim t2)] ∧ s.obj 10 0 = some [natV (lim a1), natV (lim a2)] ∧
        t1 ≤ t2 ∧ t2 ≤ 2 ^ w + 2 * k ∧ a1 ≤ a2 ∧ a2 ≤ k * 2 ^ (w + 11))
    (fun s => match s.tmp 11 with | .sv (.int _ i) => 1002 - i.toNat | _ => 0) ⟨rfl, rfl, rfl, rfl, rfl, rfl, rfl, 1000, 1, t0, t0 + 1, t0, t0 + 1, rfl, rfl, by omega, h, rfl, rfl, by omega, by omega, by omega, by omega⟩ ?_
  rintro s ⟨i2, i6, o6, i8, o8, i9, i10, f, k, t1, t2, a1, a2, i11, hfk, hk, hg, o9, o10, g1, g2, g3, g4⟩
  have hk2 : k * 2 ^ (w + 11) ≤ 1001 * 2 ^ (w + 11) := Nat.mul_le_mul_right _ (by omega)
  have lt2 := lim_len_p2 (n := t2) (w := w + 11) (by omega) (by omega)
  have lt1 := lim_len_p2 (n := t1) (w := w + 11) (by omega) (by omega)
  have la2 := lim_len_p2 (n := a2) (w := w + 22) (by omega) (by omega)
  have la1 := lim_len_p2 (n := a1) (w := w + 22) (by omega) (by omega)
  have sm := fix_Small (a := t1) (b := t2) (by omega) (k := 2) (by omega)
  cases f with
  | zero => simp only [angGo] at hg; cases hg
  | succ f =>
    rw [angGo] at hg
    simp only [pin_eq] at hg
    by_cases hs : t2 < 2 ^ 2
    · rw [decide_eq_true hs] at sm
      rw [if_pos (show t2 < 4 from hs)] at hg
      obtain ⟨rfl, rfl⟩ : a1 = A ∧ a2 + 8 = B := by simpa using hg
      have wd := fix_Wider (a := a1) (b := a2) (n := 8) (by omega) (by omega) (by omega)
      clear hg
      repeat (first | (simp only [go_sem, Nat.reduceEqDiff, Nat.reduceAdd, Nat.reduceSub, Nat.reduceMul, Nat.reduceLeDiff, Nat.reduceLT, reduceIte, reduceCtorEq, Nat.succ_ne_zero, elemsC, Int.reduceToNat, Nat.reducePow, i2, i6, o6, i8, o8, i9, i10, i11, o9, o10, Bool.not_true]) | (simp (disch := (first | omega | (simp only [AL, List.length_map]; omega))) only [AR, AL, ifT, ifF, take_all, List.length_cons, List.length_nil, Int.reduceToNat, Int.reducePow, Nat.reducePow, i2, i6, o6, i8, o8, i9, i10, i11, o9, o10, Bool.not_true]) | (refine wk_intro (by kernel_rfl) ?_) | (refine vf_of (by first | exact sm | exact wd) ?_))
    · rw [decide_eq_false hs] at sm
      rw [if_neg (show ¬ t2 < 4 from hs)] at hg
      have mu := fix_Mul (a := t1) (b := t2) (c := b1) (d := b1 + 1) (w := w) (by omega) (by omega) (by omega) (by omega) (by omega) hw0
      have q1 := nat_Of (2 * k) (by omega)
      have q2 := nat_Of (2 * k + 1) (by omega)
      have l1 : (lim (2 * k)).length ≤ 1 := lim_len_one (by omega)
      have l2 : (lim (2 * k + 1)).length ≤ 1 := lim_len_one (by omega)
      have hx : t2 * (b1 + 1) / 2 ^ w ≤ t2 := (Nat.div_le_iff_le_mul hP).2 (by have := Nat.mul_le_mul_left t2 (show b1 + 1 ≤ 2 ^ w by omega); omega)
      have hy : t1 * b1 / 2 ^ w ≤ t2 * (b1 + 1) / 2 ^ w := Nat.div_le_div_right (Nat.mul_le_mul g1 (by omega))
      generalize t1 * b1 / 2 ^ w = x1 at *
      generalize t2 * (b1 + 1) / 2 ^ w = x2 at *
      have lx2 := lim_len_p2 (n := x2 + 1) (w := w + 11) (by omega) (by omega)
      have lx1 := lim_len_p2 (n := x1) (w := w + 11) (by omega) (by omega)
      have ti := fix_Times (a := x1) (b := x2 + 1) (n := 2 * k) (d := 2 * k + 1) (by omega) (by omega) (by omega) (by omega) (by omega)
      have hz := times_le (x := x2) (k := k)
      have hz2 : x1 * (2 * k) / (2 * k + 1) ≤ (x2 + 1) * (2 * k) / (2 * k + 1) + 1 := Nat.le_succ_of_le (Nat.div_le_div_right (Nat.mul_le_mul_right _ (by omega)))
      generalize x1 * (2 * k) / (2 * k + 1) = u1 at *
      generalize (x2 + 1) * (2 * k) / (2 * k + 1) + 1 = u2 at *
      have lu2 := lim_len_p2 (n := u2) (w := w + 11) (by omega) (by omega)
      have lu1 := lim_len_p2 (n := u1) (w := w + 11) (by omega) (by omega)
      have ad := fix_Add (a := a1) (b := a2) (c := u1) (d := u2) (by omega) (by omega) (by omega) (by omega)
      have e1 : ((2 * k : Nat) : Int) = 2 * (k : Int) := by omega
      have e2 : ((2 * k + 1 : Nat) : Int) = 2 * (k : Int) + 1 := by omega
      rw [e1] at q1
      rw [e2] at q2
      repeat (first | (simp only [go_sem, Nat.reduceEqDiff, Nat.reduceAdd, Nat.reduceSub, Nat.reduceMul, Nat.reduceLeDiff, Nat.reduceLT, reduceIte, reduceCtorEq, Nat.succ_ne_zero, elemsC, Int.reduceToNat, Nat.reducePow, i2, i6, o6, i8, o8, i9, i10, i11, o9, o10, Bool.not_false]) | (simp (disch := (first | omega | (simp only [AL, List.length_map]; omega))) only [AR, AL, ifT, ifF, take_all, List.length_cons, List.length_nil, Int.reduceToNat, Int.reducePow, Nat.reducePow, i2, i6, o6, i8, o8, i9, i10, i11, o9, o10, Bool.not_false]) | (refine wk_intro (by kernel_rfl) ?_) | (refine vf_of (by first | exact sm | exact mu | exact q1 | exact q2 | exact ti | exact ad) ?_))
      exact ⟨⟨f, k + 1, u1, u2, a1 + u1, a2 + u2, rfl, by omega, by omega, hg, rfl, rfl, by omega, by omega, by omega, by rw [Nat.add_mul, Nat.one_mul]; omega⟩, by omega⟩
theorem fix_Certain1 {p sp lo hi : Nat} {f : FuncId} (hf : Go.Ev.Fn CX f [.int .i64 ((p + sp : Nat) : Int)] (spanV lo hi)) (hlo : (lim lo).length ≤ 1000) (hhi : (lim hi).length ≤ 1000) (hp : p ≤ 10000) (hsp : sp ≤ 1000) (hs0 : 0 < sp) (hc : lo / 2 ^ sp = (hi - 1) / 2 ^ sp) :
    Go.Ev.Fn CX 193 [.int .i64 (p : Int), .int .i64 (sp : Int), .fn f []] (ballR (mkRat ((lo / 2 ^ sp : Nat) : Int) (2 ^ p)) (mkRat ((lo / 2 ^ sp + 1 : Nat) : Int) (2 ^ p))) := by
  have fl := fix_Floor (a := lo) (b := hi) (w := p + sp) (p := p) (by omega) (by omega) (by omega) (by omega)
  rw [Nat.add_sub_cancel_left, decide_eq_true hc] at fl
  have o := fix_One
  have l1 := lim_len1
  have sh := fix_shl (a := 1) (m := p) (by omega) (by omega)
  have lp := lim_len_shl (a := 1) (n := p)
  rw [Nat.one_mul] at sh lp
  have ll := lim_len_mono (Nat.div_le_self lo (2 ^ sp))
  have n1 := fix_Next (a := lo / 2 ^ sp) (by omega)
  have l2 := lim_len_add (a := lo / 2 ^ sp) (b := 1) (L := 1000) (by omega) (by omega)
  have r1 := rat_OfL (s := false) (n := lo / 2 ^ sp) (d := 2 ^ p) (by omega) (by omega)
  have r2 := rat_OfL (s := false) (n := lo / 2 ^ sp + 1) (d := 2 ^ p) (by omega) (by omega)
  rw [show sgn false (lo / 2 ^ sp) = ((lo / 2 ^ sp : Nat) : Int) from rfl] at r1
  rw [show sgn false (lo / 2 ^ sp + 1) = ((lo / 2 ^ sp + 1 : Nat) : Int) from rfl] at r2
  generalize mkRat ((lo / 2 ^ sp : Nat) : Int) (2 ^ p) = q1 at *
  generalize mkRat ((lo / 2 ^ sp + 1 : Nat) : Int) (2 ^ p) = q2 at *
  generalize lo / 2 ^ sp + 1 = a' at *
  generalize lo / 2 ^ sp = a at *
  generalize 2 ^ p = P at *
  rw [show ((p + sp : Nat) : Int) = (p : Int) + (sp : Int) from rfl] at hf fl
  refine Go.Ev.Fn.intro (fn := Tryz.f193) (body := (Tryz.f193).body.get!) (by kernel_rfl) (by kernel_rfl) (by kernel_rfl) (fun _ => rfl) (Nat.le_of_ble_eq_true (by kernel_rfl)) ?_; unfold Tryz.f193; simp only [Option.get!_some]
  repeat (first | (simp only [go_sem, Nat.reduceEqDiff, Nat.reduceAdd, Nat.reduceSub, Nat.reduceMul, Nat.reduceLeDiff, Nat.reduceLT, reduceIte, reduceCtorEq, Nat.succ_ne_zero, elemsC, Int.reduceToNat, Nat.reducePow]) | (simp (disch := (first | omega | (simp only [AL, List.length_map]; omega))) only [AR, AL, ifT, ifF, take_all, List.length_cons, List.length_nil, Int.reduceToNat, Int.reducePow, Nat.reducePow]) | (refine wk_intro (by kernel_rfl) ?_))
  refine vp_loop_inv (fun s => s.tmp 0 = .sv (.int .i64 (p : Int)) ∧ s.tmp 2 = .sv (.fn f []) ∧ s.tmp 6 = .ptr 6 0 0 ∧ s.obj 6 0 = some [.bool false, .sl 0 [], .sl 0 [], .bool false, .sl 0 [], .sl 0 []] ∧ s.tmp 7 = .sv (.int .i64 ((p : Int) + (sp : Int)))) (fun _ => 0) ⟨rfl, rfl, rfl, rfl, rfl⟩ ?_
  rintro s ⟨i0, i2, i6, o6, i7⟩
  repeat (first | (simp only [go_sem, Nat.reduceEqDiff, Nat.reduceAdd, Nat.reduceSub, Nat.reduceMul, Nat.reduceLeDiff, Nat.reduceLT, reduceIte, reduceCtorEq, Nat.succ_ne_zero, elemsC, Int.reduceToNat, Nat.reducePow, i0, i2, i6, o6, i7]) | (simp (disch := (first | omega | (simp only [AL, List.length_map]; omega))) only [AR, AL, ifT, ifF, take_all, List.length_cons, List.length_nil, Int.reduceToNat, Int.reducePow, Nat.reducePow, i0, i2, i6, o6, i7]) | (refine wk_intro (by kernel_rfl) ?_) | (refine vf_of (by first | exact hf | exact fl | exact o | exact sh | exact r1 | exact n1 | exact r2) ?_))
theorem arcs_held (p : Int) : Go.Ev.Fn CX 239 [.int .i64 p] (.int .i64 (if p < 0 then 0 else if 512 < p then 512 else p)) := by
  by_cases h1 : p < 0
  · rw [if_pos h1]
    have e1 : (if (0 : Int) > p then (0 : Int) else p) = 0 := if_pos (by omega)
    refine Go.Ev.Fn.intro (fn := Tryz.f239) (body := (Tryz.f239).body.get!) (by kernel_rfl) (by kernel_rfl) (by kernel_rfl) (fun _ => rfl) (Nat.le_of_ble_eq_true (by kernel_rfl)) ?_; unfold Tryz.f239; simp only [Option.get!_some]
    repeat (first | (simp only [go_sem, Nat.reduceEqDiff, Nat.reduceAdd, Nat.reduceSub, Nat.reduceMul, Nat.reduceLeDiff, Nat.reduceLT, reduceIte, reduceCtorEq, Nat.succ_ne_zero, elemsC, Int.reduceToNat, Nat.reducePow, e1]) | (simp (disch := (first | omega | (simp only [AL, List.length_map]; omega))) only [AR, AL, ifT, ifF, take_all, List.length_cons, List.length_nil, Int.reduceToNat, Int.reducePow, Nat.reducePow, e1]) | (refine wk_intro (by kernel_rfl) ?_))
  · rw [if_neg h1]
    have e1 : (if (0 : Int) > p then (0 : Int) else p) = p := if_neg (by omega)
    by_cases h2 : 512 < p
    · rw [if_pos h2]
      have e2 : (if (512 : Int) < p then (512 : Int) else p) = 512 := if_pos h2
      refine Go.Ev.Fn.intro (fn := Tryz.f239) (body := (Tryz.f239).body.get!) (by kernel_rfl) (by kernel_rfl) (by kernel_rfl) (fun _ => rfl) (Nat.le_of_ble_eq_true (by kernel_rfl)) ?_; unfold Tryz.f239; simp only [Option.get!_some]
      repeat (first | (simp only [go_sem, Nat.reduceEqDiff, Nat.reduceAdd, Nat.reduceSub, Nat.reduceMul, Nat.reduceLeDiff, Nat.reduceLT, reduceIte, reduceCtorEq, Nat.succ_ne_zero, elemsC, Int.reduceToNat, Nat.reducePow, e1, e2]) | (simp (disch := (first | omega | (simp only [AL, List.length_map]; omega))) only [AR, AL, ifT, ifF, take_all, List.length_cons, List.length_nil, Int.reduceToNat, Int.reducePow, Nat.reducePow, e1, e2]) | (refine wk_intro (by kernel_rfl) ?_))
    · rw [if_neg h2]
      have e2 : (if (512 : Int) < p then (512 : Int) else p) = p := if_neg h2
      refine Go.Ev.Fn.intro (fn := Tryz.f239) (body := (Tryz.f239).body.get!) (by kernel_rfl) (by kernel_rfl) (by kernel_rfl) (fun _ => rfl) (Nat.le_of_ble_eq_true (by kernel_rfl)) ?_; unfold Tryz.f239; simp only [Option.get!_some]
      repeat (first | (simp only [go_sem, Nat.reduceEqDiff, Nat.reduceAdd, Nat.reduceSub, Nat.reduceMul, Nat.reduceLeDiff, Nat.reduceLT, reduceIte, reduceCtorEq, Nat.succ_ne_zero, elemsC, Int.reduceToNat, Nat.reducePow, e1, e2]) | (simp (disch := (first | omega | (simp only [AL, List.length_map]; omega))) only [AR, AL, ifT, ifF, take_all, List.length_cons, List.length_nil, Int.reduceToNat, Int.reducePow, Nat.reducePow, e1, e2]) | (refine wk_intro (by kernel_rfl) ?_))
theorem angGo_bd {w b1 b2 T : Nat} (hb : b1 ≤ b2) (hb2 : b2 ≤ 2 ^ w) : ∀ (f k t1 t2 a1 a2 : Nat) {A B : Nat}, angGo w b1 b2 f k t1 t2 a1 a2 = some (A, B) → t1 ≤ t2 → t2 + 2 * f ≤ T → a1 ≤ a2 → A ≤ B ∧ B ≤ a2 + f * T + 8 := by
  intro f
  induction f with
  | zero => intro k t1 t2 a1 a2 A B h; simp only [angGo] at h; cases h
  | succ f ih =>
    intro k t1 t2 a1 a2 A B h ht hT ha
    have hP : 0 < 2 ^ w := Nat.pow_pos (by omega)
    rw [angGo] at h
    simp only [pin_eq] at h
    rw [Nat.add_mul, Nat.one_mul]
    by_cases hs : t2 < 4
    · rw [if_pos hs] at h
      obtain ⟨rfl, rfl⟩ : a1 = A ∧ a2 + 8 = B := by simpa using h
      omega
    · rw [if_neg hs] at h
      have hx : t2 * b2 / 2 ^ w ≤ t2 := (Nat.div_le_iff_le_mul hP).2 (by have := Nat.mul_le_mul_left t2 hb2; omega)
      have hy : t1 * b1 / 2 ^ w ≤ t2 * b2 / 2 ^ w := Nat.div_le_div_right (Nat.mul_le_mul ht hb)
      have hz := times_le (x := t2 * b2 / 2 ^ w) (k := k)
      have hz2 : t1 * b1 / 2 ^ w * (2 * k) / (2 * k + 1) ≤ (t2 * b2 / 2 ^ w + 1) * (2 * k) / (2 * k + 1) + 1 := Nat.le_succ_of_le (Nat.div_le_div_right (Nat.mul_le_mul_right _ (by omega)))
      generalize t1 * b1 / 2 ^ w * (2 * k) / (2 * k + 1) = u1 at *
      generalize (t2 * b2 / 2 ^ w + 1) * (2 * k) / (2 * k + 1) + 1 = u2 at *
      have := ih _ _ _ _ _ h hz2 (by omega) (by omega)
      omega
theorem angF_bd {n d w A B : Nat} (hn0 : 0 < n) (hnd : n ≤ d) (hw : w ≤ 900) (hw0 : 11 ≤ w) (h : angF n d w = some (A, B)) : (lim A).length ≤ 40 ∧ (lim B).length ≤ 40 := by
  unfold angF at h
  rw [pin_eq, pin_eq] at h
  have hP : 0 < 2 ^ w := Nat.pow_pos (by omega)
  have h1 := Nat.mul_le_mul hnd hnd
  have h2 : n * d ≤ d * d := Nat.mul_le_mul_right _ hnd
  have h3 : 0 < n * n := Nat.mul_pos hn0 hn0
  have hb1 : n * n * 2 ^ w / (n * n + d * d) < 2 ^ w := by
    rw [Nat.div_lt_iff_lt_mul (by omega), Nat.mul_comm (2 ^ w)]
    exact Nat.mul_lt_mul_of_pos_right (by omega) hP
  have ht1 : n * d * 2 ^ w / (n * n + d * d) ≤ 2 ^ w := (Nat.div_le_iff_le_mul (by omega)).2 (by have := Nat.mul_le_mul_right (2 ^ w) (show n * d ≤ n * n + d * d by omega); rw [Nat.mul_comm (2 ^ w)]; omega)
  have hb := angGo_bd (T := 2 ^ w + 2001) (Nat.le_succ _) (by omega) _ _ _ _ _ _ h (by omega) (by omega) (by omega)
  have hbig : 2 ^ w * 4096 = 2 ^ (w + 12) := by rw [Nat.pow_add]
  have h11 : 2 ^ 11 ≤ 2 ^ w := Nat.pow_le_pow_right (by omega) hw0
  exact ⟨lim_len_p2 (w := w + 12) (by omega) (by omega), lim_len_p2 (w := w + 12) (by omega) (by omega)⟩
theorem arcs_pi {w A B : Nat} (hw : w ≤ 900) (hw0 : 11 ≤ w) (h : piF w = some (A, B)) : Go.Ev.Fn CX 240 [.int .i64 (w : Int)] (spanV A B) ∧ (lim A).length ≤ 100 ∧ (lim B).length ≤ 100 := by
  unfold piF at h
  split at h
  · rename_i a1 a2 b1 b2 h1 h2
    obtain ⟨rfl, rfl⟩ : a1 * 16 - (b2 * 4 + 1) = A ∧ a2 * 16 + 1 - b1 * 4 + 1 = B := by simpa using h
    clear h
    have an1 := arcs_angle (n := 1) (d := 5) (by omega) (by omega) (by omega) hw (by omega) h1
    have an2 := arcs_angle (n := 1) (d := 239) (by omega) (by omega) (by omega) hw (by omega) h2
    obtain ⟨g1, g2⟩ := angF_bd (by omega) (by omega) (by omega) hw0 h1
    obtain ⟨g3, g4⟩ := angF_bd (by omega) (by omega) (by omega) hw0 h2
    have o := fix_One
    have q5 := nat_Of 5 (by omega)
    have q239 := nat_Of 239 (by omega)
    have q16 := nat_Of 16 (by omega)
    have q4 := nat_Of 4 (by omega)
    have l16 : (lim 16).length ≤ 1 := lim_len_one (by decide)
    have l4 : (lim 4).length ≤ 1 := lim_len_one (by decide)
    have l1 := lim_len1
    have t1 := fix_Times (a := a1) (b := a2) (n := 16) (d := 1) (by omega) (by omega) (by omega) (by omega) (by omega)
    have t2 := fix_Times (a := b1) (b := b2) (n := 4) (d := 1) (by omega) (by omega) (by omega) (by omega) (by omega)
    rw [Nat.div_one, Nat.div_one] at t1 t2
    have e1 := lim_len_mul (a := a1) (b := 16)
    have e2 := lim_len_mul (a := a2) (b := 16)
    have e3 := lim_len_mul (a := b1) (b := 4)
    have e4 := lim_len_mul (a := b2) (b := 4)
    have e5 := lim_len_add (a := a2 * 16) (b := 1) (L := 50) (by omega) (by omega)
    have e6 := lim_len_add (a := b2 * 4) (b := 1) (L := 50) (by omega) (by omega)
    have sb := fix_Sub (a := a1 * 16) (b := a2 * 16 + 1) (c := b1 * 4) (d := b2 * 4 + 1) (by omega) (by omega) (by omega) (by omega)
    have e7 := lim_len_mono (Nat.sub_le (a1 * 16) (b2 * 4 + 1))
    have e8 := lim_len_mono (Nat.sub_le (a2 * 16 + 1) (b1 * 4))
    have e9 := lim_len_add (a := a2 * 16 + 1 - b1 * 4) (b := 1) (L := 60) (by omega) (by omega)
    refine ⟨?_, by omega, by omega⟩
    generalize a1 * 16 - (b2 * 4 + 1) = x1 at *
    generalize a2 * 16 + 1 - b1 * 4 + 1 = x2 at *
    generalize a2 * 16 + 1 = x3 at *
    generalize b2 * 4 + 1 = x4 at *
    generalize a1 * 16 = x5 at *
    generalize b1 * 4 = x6 at *
    refine Go.Ev.Fn.intro (fn := Tryz.f240) (body := (Tryz.f240).body.get!) (by kernel_rfl) (by kernel_rfl) (by kernel_rfl) (fun _ => rfl) (Nat.le_of_ble_eq_true (by kernel_rfl)) ?_; unfold Tryz.f240; simp only [Option.get!_some]
    repeat (first | (simp only [go_sem, Nat.reduceEqDiff, Nat.reduceAdd, Nat.reduceSub, Nat.reduceMul, Nat.reduceLeDiff, Nat.reduceLT, reduceIte, reduceCtorEq, Nat.succ_ne_zero, elemsC, Int.reduceToNat, Nat.reducePow]) | (simp (disch := (first | omega | (simp only [AL, List.length_map]; omega))) only [AR, AL, ifT, ifF, take_all, List.length_cons, List.length_nil, Int.reduceToNat, Int.reducePow, Nat.reducePow]) | (refine wk_intro (by kernel_rfl) ?_) | (refine vp_draw (id := 2) (l := [14, 15, 18, 19]) (by kernel_rfl) ?_) | (refine vf_of (by first | exact o | exact q5 | exact an1 | exact q239 | exact an2 | exact q16 | exact t1 | exact q4 | exact t2 | exact sb) ?_))
  · cases h
theorem allFrom_at {f : Nat → Bool} : ∀ {n k : Nat}, allFrom f n k = true → ∀ i, k ≤ i → i < k + n → f i = true := by
  intro n
  induction n with
  | zero => intro k _ i h1 h2; omega
  | succ n ih =>
    intro k h i h1 h2
    rw [allFrom, Bool.and_eq_true] at h
    rcases Nat.eq_or_lt_of_le h1 with h3 | h3
    · rw [← h3]; exact h.1
    · exact ih h.2 i h3 (by omega)
end Go.Proofs.YtecjelnpmcnbaaaGreat
namespace Go.Proofs.YtecjelnpmcnbaaaGreat
open Go.Ev
theorem four_mul_le (x y : Nat) : 4 * (x * y) ≤ (x + y) * (x + y) := by
  rcases Nat.le_total x y with h | h
  · obtain ⟨k, rfl⟩ := Nat.exists_eq_add_of_le h
    have : (x + (x + k)) * (x + (x + k)) = 4 * (x * (x + k)) + k * k := by grind
    omega
  · obtain ⟨k, rfl⟩ := Nat.exists_eq_add_of_le h
    have : (y + k + y) * (y + k + y) = 4 * ((y + k) * y) + k * k := by grind
    omega
theorem newton_up {a x : Nat} (hx : 0 < x) : a < ((x + a / x) / 2 + 1) * ((x + a / x) / 2 + 1) := by
  have h1 : a < x * (a / x + 1) := by
    have := Nat.div_add_mod a x
    have := Nat.mod_lt a hx
    rw [Nat.mul_add, Nat.mul_one]; omega
  have h2 := four_mul_le x (a / x + 1)
  generalize a / x = q at *
  have h3 : x + (q + 1) ≤ 2 * ((x + q) / 2 + 1) := by omega
  have h4 := Nat.mul_le_mul h3 h3
  generalize (x + q) / 2 + 1 = m at *
  have h5 : 2 * m * (2 * m) = 4 * (m * m) := by grind
  omega
theorem newton_stop {a x : Nat} (hx : 0 < x) (h : x ≤ (x + a / x) / 2) : x * x ≤ a := by
  have h1 : x ≤ a / x := by omega
  have h2 := Nat.mul_le_mul_left x h1
  have h3 := Nat.mul_div_le a x
  omega
def vN (v : SV) : Nat := match decV v with
  | some xs => wth xs
  | none => 0
theorem vN_lim {x : Nat} (h : (lim x).length ≤ 1073741824) : vN (natV (lim x)) = x := by
  unfold vN
  rw [decV_nat (okL_lim x) h]
  exact wth_lim x
theorem lim_p32 (n : Nat) : lim (4294967296 ^ n) = List.replicate n 0 ++ [1] := by
  have h := lim_unique (xs := List.replicate n 0 ++ [1]) (okL_append.2 ⟨okL_replicate _, by simp [okL]⟩) (.inr ⟨_, 1, rfl, by decide⟩)
  rw [wth_append, wth_replicate, List.length_replicate, Nat.zero_add, show wth [1] = 1 from rfl, Nat.mul_one] at h
  exact h.symm
theorem set_last (n : Nat) : ((List.replicate (n + 1) 0).set n 1 : List Nat) = List.replicate n 0 ++ [1] := by
  rw [List.replicate_succ', List.set_append_right _ _ (by simp), List.length_replicate, Nat.sub_self]
  rfl
set_option maxHeartbeats 1000000 in
theorem root_Int {a : Nat} (h : (lim a).length ≤ 1000) : Go.Ev.Fn CX 245 [natV (lim a)] (natV (lim (rtN a))) := by
  have b := nat_Bits (N := a) (by omega)
  have hb : a < 2 ^ blen a := blen_iff.1 (Nat.le_refl _)
  by_cases h0 : a = 0
  · subst h0
    have e : rtN 0 = 0 := (rtN_eq (a := 0) (r := 0) (by omega) (by omega)).symm
    rw [e, lim_zero]
    rw [lim_zero, show blen 0 = 0 from rfl] at b
    refine Go.Ev.Fn.intro (fn := Tryz.f245) (body := (Tryz.f245).body.get!) (by kernel_rfl) (by kernel_rfl) (by kernel_rfl) (fun _ => rfl) (Nat.le_of_ble_eq_true (by kernel_rfl)) ?_; unfold Tryz.f245; simp only [Option.get!_some]
    repeat (first | (simp only [go_sem, Nat.reduceEqDiff, Nat.reduceAdd, Nat.reduceSub, Nat.reduceMul, Nat.reduceLeDiff, Nat.reduceLT, reduceIte, reduceCtorEq, Nat.succ_ne_zero, elemsC, Int.reduceToNat, Nat.reducePow]) | (simp (disch := (first | omega | (simp only [AL, List.length_map]; omega))) only [AR, AL, ifT, ifF, take_all, List.length_cons, List.length_nil, Int.reduceToNat, Int.reducePow, Nat.reducePow]) | (refine wk_intro (by kernel_rfl) ?_) | (refine vf_of (by first | exact b) ?_))
    rfl
  have hB0 : blen a ≠ 0 := fun e => by rw [e] at hb; omega
  have hBl : blen a ≤ 32000 := by
    obtain ⟨K, hK⟩ : ∃ K : Nat, K = 32000 := ⟨_, rfl⟩
    rw [← hK]
    refine blen_iff.2 (Nat.lt_of_lt_of_le lim_len_pow ?_)
    rw [show (4294967296 : Nat) = 2 ^ 32 from rfl, ← Nat.pow_mul]
    exact Nat.pow_le_pow_right (by omega) (by omega)
  generalize blen a = B at *
  have ha0 : a < 4294967296 ^ (B / 64 + 1) * 4294967296 ^ (B / 64 + 1) := by
    refine Nat.lt_of_lt_of_le hb ?_
    rw [← Nat.pow_add, show (4294967296 : Nat) = 2 ^ 32 from rfl, ← Nat.pow_mul]
    exact Nat.pow_le_pow_right (by omega) (by omega)
  have l0 := lim_p32 (B / 64 + 1)
  have hn : B / 64 + 1 ≤ 501 := by omega
  have tq : (B : Int).tdiv 64 = ((B / 64 : Nat) : Int) := _root_.id rfl
  have sl := set_last (B / 64 + 1)
  rw [← l0] at sl
  have x0pos : 0 < 4294967296 ^ (B / 64 + 1) := Nat.pow_pos (by omega)
  have ll : (lim (4294967296 ^ (B / 64 + 1))).length = B / 64 + 2 := by rw [l0]; simp
  have wp := wth_lim (4294967296 ^ (B / 64 + 1))
  generalize 4294967296 ^ (B / 64 + 1) = x0 at *
  -- one round
  have round : ∀ x, 0 < x → (lim x).length ≤ 1000 → Go.Ev.Fn CX 112 [natV (lim a), natV (lim x)] (.tup [natV (lim (a / x)), natV (lim (a % x)), .bool true]) ∧ Go.Ev.Fn CX 106 [natV (lim x), natV (lim (a / x))] (natV (lim (x + a / x))) ∧
      Go.Ev.Fn CX 67 [natV (lim (x + a / x)), .int .i64 (-1)] (natV (lim ((x + a / x) / 2))) ∧ Go.Ev.Fn CX 147 [natV (lim ((x + a / x) / 2)), natV (lim x)] (.int .i64 (cmpN ((x + a / x) / 2) x)) := by
    intro x hx hl
    have l1 := lim_len_mono (Nat.div_le_self a x)
    have l2 := lim_len_add (a := x) (b := a / x) (L := 1000) (by omega) (by omega)
    have l3 := lim_len_mono (Nat.div_le_self (x + a / x) 2)
    have s := nat_shr (N := x + a / x) (m := 1) (by omega) (by omega) (by omega)
    rw [Nat.pow_one] at s
    exact ⟨nat_DivL (by omega) (by omega) (by omega), nat_AddL (by omega) (by omega), s, nat_CmpL (by omega) (by omega)⟩
  have tr : ∀ x, (lim x).length ≤ 1000 → Go.Ev.Fn CX 110 [natV (lim x)] (natV (lim x)) := by
    intro x hl
    have := nat_Trim (lim x) (okL_lim x) (by omega)
    rwa [wth_lim] at this
  have tn : (((B / 64 : Nat) : Int) + 2).toNat = B / 64 + 2 := by omega
  refine Go.Ev.Fn.intro (fn := Tryz.f245) (body := (Tryz.f245).body.get!) (by kernel_rfl) (by kernel_rfl) (by kernel_rfl) (fun _ => rfl) (Nat.le_of_ble_eq_true (by kernel_rfl)) ?_; unfold Tryz.f245; simp only [Option.get!_some]
  repeat (first | (simp only [go_sem, Nat.reduceEqDiff, Nat.reduceAdd, Nat.reduceSub, Nat.reduceMul, Nat.reduceLeDiff, Nat.reduceLT, reduceIte, reduceCtorEq, Nat.succ_ne_zero, elemsC, Int.reduceToNat, Nat.reducePow, tq, tn]) | (simp (disch := (first | omega | (simp only [AL, List.length_map]; omega))) only [AR, AL, ifT, ifF, take_all, List.length_cons, List.length_nil, Int.reduceToNat, Int.reducePow, Nat.reducePow, tq, tn]) | (refine wk_intro (by kernel_rfl) ?_) | (refine vf_of (by first | exact b) ?_))
  have hstep : ∀ x, 0 < x → a < (x + 1) * (x + 1) → ∀ y, y = (x + a / x) / 2 → ¬ x ≤ y → 0 < y ∧ a < (y + 1) * (y + 1) ∧ y < x := by
    rintro x hx - y rfl hxy
    have := newton_up (a := a) hx
    refine ⟨?_, this, by omega⟩
    rcases Nat.eq_zero_or_pos ((x + a / x) / 2) with e | e
    · rw [e] at this; omega
    · exact e
  refine vp_loop_inv (fun s => s.tmp 0 = .sv (natV (lim a)) ∧ ∃ x : Nat, 0 < x ∧ (lim x).length ≤ 600 ∧ x ≤ x0 ∧ a < (x + 1) * (x + 1) ∧ (s.tmp 3 = .sv (natV (lim x)) ∨ x = x0 ∧ s.tmp 3 = .ref 15 0 1 0 (B / 64 + 2) ∧ s.obj 15 0 = some ((lim x0).map limb)))
    (fun s => match s.tmp 3 with | .sv v => vN v | _ => x0 + 1) ?_ ?_
  · refine ⟨rfl, x0, x0pos, by omega, Nat.le_refl _, by have := Nat.mul_le_mul (show x0 ≤ x0 + 1 by omega) (show x0 ≤ x0 + 1 by omega); omega, .inr ⟨rfl, by first | rfl | (rw [← tn]; rfl), ?_⟩⟩
    refine (?_ : some (List.map limb (List.take (B / 64 + 2 - 1) (List.replicate (B / 64 + 2) 0)) ++ [SV.int IntKind.u32 1] ++ List.map limb (List.drop (B / 64 + 2 - 1 + 1) (List.replicate (B / 64 + 2) 0))) = _)
    rw [l0, List.take_replicate, List.drop_replicate, Nat.min_eq_left (by omega), show B / 64 + 2 - (B / 64 + 2 - 1 + 1) = 0 by omega, show B / 64 + 2 - 1 = B / 64 + 1 by omega, List.map_append, List.replicate_zero, List.map_nil, List.append_nil]
    rfl
  rintro s ⟨i0, x, hx, lx, hxx, hax, i3⟩
  obtain ⟨r1, r2, r3, r4⟩ := round x hx (by omega)
  have hst := hstep x hx hax _ rfl
  have e1 : decide (cmpN ((x + a / x) / 2) x ≥ 0) = decide (x ≤ (x + a / x) / 2) := decide_eq_decide.2 (by unfold cmpN; split <;> (try split) <;> omega)
  have hstop := newton_stop (a := a) (x := x) hx
  have t1 := tr x (by omega)
  have l1 := lim_len_mono (Nat.div_le_self (x + a / x) 2)
  generalize (x + a / x) / 2 = y at *
  generalize x + a / x = u at *
  generalize a / x = q at *
  generalize cmpN y x = z at *
  rcases i3 with i3 | ⟨rfl, i3, o3⟩
  · by_cases hle : x ≤ y
    · rw [decide_eq_true hle] at e1
      obtain rfl := rtN_eq (hstop hle) hax
      repeat (first | (simp only [go_sem, Nat.reduceEqDiff, Nat.reduceAdd, Nat.reduceSub, Nat.reduceMul, Nat.reduceLeDiff, Nat.reduceLT, reduceIte, reduceCtorEq, Nat.succ_ne_zero, elemsC, Int.reduceToNat, Nat.reducePow, i0, i3, e1]) | (simp (disch := (first | omega | (simp only [AL, List.length_map]; omega))) only [AR, AL, ifT, ifF, take_all, List.length_cons, List.length_nil, Int.reduceToNat, Int.reducePow, Nat.reducePow, i0, i3, e1]) | (refine wk_intro (by kernel_rfl) ?_) | (refine vf_of (by first | exact r1 | exact r2 | exact r3 | exact r4 | exact t1) ?_))
    · rw [decide_eq_false hle] at e1
      obtain ⟨y1, y2, y3⟩ := hst hle
      repeat (first | (simp only [go_sem, Nat.reduceEqDiff, Nat.reduceAdd, Nat.reduceSub, Nat.reduceMul, Nat.reduceLeDiff, Nat.reduceLT, reduceIte, reduceCtorEq, Nat.succ_ne_zero, elemsC, Int.reduceToNat, Nat.reducePow, i0, i3, e1]) | (simp (disch := (first | omega | (simp only [AL, List.length_map]; omega))) only [AR, AL, ifT, ifF, take_all, List.length_cons, List.length_nil, Int.reduceToNat, Int.reducePow, Nat.reducePow, i0, i3, e1]) | (refine wk_intro (by kernel_rfl) ?_) | (refine vf_of (by first | exact r1 | exact r2 | exact r3 | exact r4) ?_))
      exact ⟨⟨y, y1, Nat.le_trans (lim_len_mono (Nat.le_of_lt y3)) lx, by omega, y2, .inl rfl⟩, by rw [vN_lim (by have := lim_len_mono (Nat.le_of_lt y3); omega), vN_lim (by omega)]; exact y3⟩
  · have hle : ¬ x ≤ y := fun g => by have := hstop g; have := ha0; omega
    rw [decide_eq_false hle] at e1
    obtain ⟨y1, y2, y3⟩ := hst hle
    have f1 : Go.Ev.Fn CX 112 [natV (lim a), .sl (B / 64 + 2) ((lim x).map limb)] (.tup [natV (lim q), natV (lim (a % x)), .bool true]) := by rw [← ll]; exact r1
    have f2 : Go.Ev.Fn CX 106 [.sl (B / 64 + 2) ((lim x).map limb), natV (lim q)] (natV (lim u)) := by rw [← ll]; exact r2
    have f4 : Go.Ev.Fn CX 147 [natV (lim y), .sl (B / 64 + 2) ((lim x).map limb)] (.int .i64 z) := by rw [← ll]; exact r4
    have hlm : ((lim x).map limb).length = B / 64 + 2 := by rw [List.length_map, ll]
    have htk : ((lim x).map limb).take (B / 64 + 2) = (lim x).map limb := List.take_of_length_le (by omega)
    generalize ((lim x).map limb) = cs at *
    repeat (first | (simp only [go_sem, Nat.reduceEqDiff, Nat.reduceAdd, Nat.reduceSub, Nat.reduceMul, Nat.reduceLeDiff, Nat.reduceLT, reduceIte, reduceCtorEq, Nat.succ_ne_zero, elemsC, Int.reduceToNat, Nat.reducePow, i0, i3, o3, htk, hlm, List.drop_zero, N0, Nat.mul_one, e1]) | (simp (disch := (first | omega | (simp only [AL, List.length_map]; omega))) only [AR, AL, ifT, ifF, take_all, List.length_cons, List.length_nil, Int.reduceToNat, Int.reducePow, Nat.reducePow, i0, i3, o3, htk, hlm, List.drop_zero, N0, Nat.mul_one, e1]) | (refine wk_intro (by kernel_rfl) ?_) | (refine vf_of (by first | exact f1 | exact f2 | exact r3 | exact f4) ?_))
    exact ⟨⟨y, y1, Nat.le_trans (lim_len_mono (Nat.le_of_lt y3)) lx, by omega, y2, .inl rfl⟩, by rw [vN_lim (by have := lim_len_mono (Nat.le_of_lt y3); omega)]; omega⟩
theorem root_whole {a : Nat} (h : (lim a).length ≤ 1000) : Go.Ev.Fn CX 250 [natV (lim a)] (.tup [natV (lim (rtN a)), .bool (decide (rtN a * rtN a = a))]) := by
  have r := root_Int h
  have l := lim_len_mono (rtN_self a)
  have m := nat_MulL (N := rtN a) (D := rtN a) (by omega) (by omega)
  have l2 := lim_len_mono (rtN_le a)
  have c := nat_CmpL (N := rtN a * rtN a) (D := a) (by omega) (by omega)
  have e : (cmpN (rtN a * rtN a) a == 0) = decide (rtN a * rtN a = a) := by
    rw [show (cmpN (rtN a * rtN a) a == 0) = decide (cmpN (rtN a * rtN a) a = 0) from by by_cases h : cmpN (rtN a * rtN a) a = 0 <;> simp [h]]
    exact decide_eq_decide.2 (by unfold cmpN; split <;> (try split) <;> omega)
  rw [← e]
  generalize cmpN (rtN a * rtN a) a = z at *
  generalize rtN a * rtN a = y at *
  generalize rtN a = x at *
  refine Go.Ev.Fn.intro (fn := Tryz.f250) (body := (Tryz.f250).body.get!) (by kernel_rfl) (by kernel_rfl) (by kernel_rfl) (fun _ => rfl) (Nat.le_of_ble_eq_true (by kernel_rfl)) ?_; unfold Tryz.f250; simp only [Option.get!_some]
  repeat (first | (simp only [go_sem, Nat.reduceEqDiff, Nat.reduceAdd, Nat.reduceSub, Nat.reduceMul, Nat.reduceLeDiff, Nat.reduceLT, reduceIte, reduceCtorEq, Nat.succ_ne_zero, elemsC, Int.reduceToNat, Nat.reducePow]) | (simp (disch := (first | omega | (simp only [AL, List.length_map]; omega))) only [AR, AL, ifT, ifF, take_all, List.length_cons, List.length_nil, Int.reduceToNat, Int.reducePow, Nat.reducePow]) | (refine wk_intro (by kernel_rfl) ?_) | (refine vf_of (by first | exact r | exact m | exact c) ?_))
theorem szR_nat {n d L : Nat} (hn : (lim n).length ≤ L) (hd : (lim d).length ≤ L) (hL : 1 ≤ L) : szR (mkRat (n : Int) d) L := szR_mk (s := false) hn hd hL
theorem natAbs_num {q : Rat} (h : 0 ≤ q) : (q.num.natAbs : Int) = q.num := Int.natAbs_of_nonneg (Rat.num_nonneg.2 h)
theorem mk_mulP (a : Int) {b : Nat} (hb : 0 < b) : mkRat a b * (b : Rat) = (a : Rat) := by
  rw [Rat.mkRat_eq_div]
  refine Rat.div_mul_cancel ?_
  have : (0 : Rat) < (b : Rat) := by exact_mod_cast hb
  grind
theorem num_den (q : Rat) : q * (q.den : Rat) = (q.num : Rat) := by
  have h := mk_mulP q.num q.den_pos
  rwa [Rat.mkRat_self] at h
theorem root_Square {v : SV} {q : Rat} {L : Nat} (hv : RatA v q L) (hq : 0 ≤ q) (hL1 : 1 ≤ L) (hL : L ≤ 1000) :
    Go.Ev.Fn CX 244 [v] (if rtN q.num.natAbs * rtN q.num.natAbs = q.num.natAbs ∧ rtN q.den * rtN q.den = q.den then .tup [rv (mkRat (rtN q.num.natAbs : Int) (rtN q.den)), .bool true] else .tup [rv 0, .bool false]) := by
  have n1 := rat_Norm hv (by omega)
  obtain ⟨z1, z2⟩ := szR_of hv hL1
  have w1 := root_whole (a := q.num.natAbs) (by omega)
  have w2 := root_whole (a := q.den) (by omega)
  have l1 := lim_len_mono (rtN_self q.num.natAbs)
  have l2 := lim_len_mono (rtN_self q.den)
  have o := rat_OfL (s := false) (n := rtN q.num.natAbs) (d := rtN q.den) (by omega) (by omega)
  rw [show sgn false (rtN q.num.natAbs) = (rtN q.num.natAbs : Int) from rfl] at o
  have r0 := rat_Int 0 (by omega)
  rw [show ((0 : Int) : Rat) = 0 from rfl] at r0
  have hs : decide (q.num < 0) = false := decide_eq_false (by have := Rat.num_nonneg.2 hq; omega)
  obtain ⟨s, n, d, rfl, -⟩ := hv
  generalize mkRat (rtN q.num.natAbs : Int) (rtN q.den) = r at *
  by_cases h1 : rtN q.num.natAbs * rtN q.num.natAbs = q.num.natAbs
  · rw [decide_eq_true h1] at w1
    by_cases h2 : rtN q.den * rtN q.den = q.den
    · rw [decide_eq_true h2] at w2
      rw [if_pos ⟨h1, h2⟩]
      clear h1 h2
      generalize rtN q.num.natAbs = x at *
      generalize rtN q.den = y at *
      refine Go.Ev.Fn.intro (fn := Tryz.f244) (body := (Tryz.f244).body.get!) (by kernel_rfl) (by kernel_rfl) (by kernel_rfl) (fun _ => rfl) (Nat.le_of_ble_eq_true (by kernel_rfl)) ?_; unfold Tryz.f244; simp only [Option.get!_some]
      repeat (first | (simp only [go_sem, Nat.reduceEqDiff, Nat.reduceAdd, Nat.reduceSub, Nat.reduceMul, Nat.reduceLeDiff, Nat.reduceLT, reduceIte, reduceCtorEq, Nat.succ_ne_zero, elemsC, Int.reduceToNat, Nat.reducePow, hs, Bool.not_true]) | (simp (disch := (first | omega | (simp only [AL, List.length_map]; omega))) only [AR, AL, ifT, ifF, take_all, List.length_cons, List.length_nil, Int.reduceToNat, Int.reducePow, Nat.reducePow, hs, Bool.not_true]) | (refine wk_intro (by kernel_rfl) ?_) | (refine vf_of (by first | exact n1 | exact w1 | exact w2 | exact o) ?_))
    · rw [decide_eq_false h2] at w2
      rw [if_neg (fun h => h2 h.2)]
      clear h1 h2
      generalize rtN q.num.natAbs = x at *
      generalize rtN q.den = y at *
      refine Go.Ev.Fn.intro (fn := Tryz.f244) (body := (Tryz.f244).body.get!) (by kernel_rfl) (by kernel_rfl) (by kernel_rfl) (fun _ => rfl) (Nat.le_of_ble_eq_true (by kernel_rfl)) ?_; unfold Tryz.f244; simp only [Option.get!_some]
      repeat (first | (simp only [go_sem, Nat.reduceEqDiff, Nat.reduceAdd, Nat.reduceSub, Nat.reduceMul, Nat.reduceLeDiff, Nat.reduceLT, reduceIte, reduceCtorEq, Nat.succ_ne_zero, elemsC, Int.reduceToNat, Nat.reducePow, hs, Bool.not_true, Bool.not_false]) | (simp (disch := (first | omega | (simp only [AL, List.length_map]; omega))) only [AR, AL, ifT, ifF, take_all, List.length_cons, List.length_nil, Int.reduceToNat, Int.reducePow, Nat.reducePow, hs, Bool.not_true, Bool.not_false]) | (refine wk_intro (by kernel_rfl) ?_) | (refine vf_of (by first | exact n1 | exact w1 | exact w2 | exact r0) ?_))
  · rw [decide_eq_false h1] at w1
    rw [if_neg (fun h => h1 h.1)]
    clear h1
    generalize rtN q.num.natAbs = x at *
    generalize hz : decide (rtN q.den * rtN q.den = q.den) = z at *
    generalize rtN q.den = y at *
    refine Go.Ev.Fn.intro (fn := Tryz.f244) (body := (Tryz.f244).body.get!) (by kernel_rfl) (by kernel_rfl) (by kernel_rfl) (fun _ => rfl) (Nat.le_of_ble_eq_true (by kernel_rfl)) ?_; unfold Tryz.f244; simp only [Option.get!_some]
    repeat (first | (simp only [go_sem, Nat.reduceEqDiff, Nat.reduceAdd, Nat.reduceSub, Nat.reduceMul, Nat.reduceLeDiff, Nat.reduceLT, reduceIte, reduceCtorEq, Nat.succ_ne_zero, elemsC, Int.reduceToNat, Nat.reducePow, hs, Bool.not_true, Bool.not_false]) | (simp (disch := (first | omega | (simp only [AL, List.length_map]; omega))) only [AR, AL, ifT, ifF, take_all, List.length_cons, List.length_nil, Int.reduceToNat, Int.reducePow, Nat.reducePow, hs, Bool.not_true, Bool.not_false]) | (refine wk_intro (by kernel_rfl) ?_) | (refine vf_of (by first | exact n1 | exact w1 | exact w2 | exact r0) ?_))
theorem nn_mul {a b : Nat} : ((a * b : Nat) : Rat) = (a : Rat) * (b : Rat) := by exact_mod_cast rfl
theorem nat_le_rat {a b : Nat} (h : a ≤ b) : (a : Rat) ≤ (b : Rat) := by exact_mod_cast h
theorem root_Sqrt {v : SV} {q : Rat} {L p : Nat} (hv : RatA v q L) (hq : 0 ≤ q) (hL1 : 1 ≤ L) (hL : L ≤ 300) (hp : p ≤ 512) :
    ∃ lo hi : Rat, Go.Ev.Fn CX 238 [v, .int .i64 (p : Int)] (.tup [ballR lo hi, .bool true]) ∧ 0 ≤ lo ∧ lo ≤ hi ∧ lo * lo ≤ q ∧ q ≤ hi * hi ∧ (hi - lo) * p2 p ≤ 1 ∧ szR lo (L + 40) ∧ szR hi (L + 40) := by
  have n1 := rat_Norm hv (by omega)
  obtain ⟨z1, z2⟩ := szR_of hv hL1
  have sq := root_Square (RatA_rv ⟨z1, z2⟩) hq hL1 (by omega)
  have l1 := lim_len_mono (rtN_self q.num.natAbs)
  have l2 := lim_len_mono (rtN_self q.den)
  have hs : decide (q.num < 0) = false := decide_eq_false (by have := Rat.num_nonneg.2 hq; omega)
  have e1 : (if (0 : Int) > (p : Int) then (0 : Int) else (p : Int)) = (p : Int) := if_neg (by omega)
  have e2 : (if (512 : Int) < (p : Int) then (512 : Int) else (p : Int)) = (p : Int) := if_neg (by omega)
  have qn := num_den q
  have qa : ((q.num.natAbs : Nat) : Rat) = (q.num : Rat) := by
    rw [← natAbs_num hq]; rfl
  have D := q.den_pos
  have DR : (0 : Rat) < (q.den : Rat) := by exact_mod_cast D
  have erv : rv q = ratV false (lim q.num.natAbs) (lim q.den) := by show ratV (decide (q.num < 0)) _ _ = _; rw [hs]
  rw [erv] at n1 sq
  by_cases h : rtN q.num.natAbs * rtN q.num.natAbs = q.num.natAbs ∧ rtN q.den * rtN q.den = q.den
  · rw [if_pos h] at sq
    have hd0 : 0 < rtN q.den := by
      rcases Nat.eq_zero_or_pos (rtN q.den) with e | e
      · have := h.2; rw [e] at this; omega
      · exact e
    have mm := mk_mulP (rtN q.num.natAbs : Int) hd0
    have YR : (0 : Rat) < (rtN q.den : Rat) := by exact_mod_cast hd0
    have x2 : ((rtN q.num.natAbs : Nat) : Rat) * ((rtN q.num.natAbs : Nat) : Rat) = (q.num : Rat) := by rw [← nn_mul, h.1, qa]
    have y2 : ((rtN q.den : Nat) : Rat) * ((rtN q.den : Nat) : Rat) = (q.den : Rat) := by rw [← nn_mul, h.2]
    have x0 := nat_nonneg (rtN q.num.natAbs)
    have mm' : mkRat (rtN q.num.natAbs : Int) (rtN q.den) * (rtN q.den : Rat) = ((rtN q.num.natAbs : Nat) : Rat) := mm
    have r0 : (0 : Rat) ≤ mkRat (rtN q.num.natAbs : Int) (rtN q.den) := le_by YR (by rw [mm', Rat.zero_mul]; exact x0)
    have rr : mkRat (rtN q.num.natAbs : Int) (rtN q.den) * mkRat (rtN q.num.natAbs : Int) (rtN q.den) = q := by
      generalize mkRat (rtN q.num.natAbs : Int) (rtN q.den) = r at *
      generalize ((rtN q.num.natAbs : Nat) : Rat) = X at *
      generalize ((rtN q.den : Nat) : Rat) = Y at *
      have e : (r * r - q) * (Y * Y) = 0 := by
        have e3 : (r * r - q) * (Y * Y) = (r * Y) * (r * Y) - q * (Y * Y) := by grind
        rw [e3, mm', x2, y2, qn, Rat.sub_self]
      rcases Rat.mul_eq_zero.1 e with g | g
      · grind
      · rw [y2] at g; grind
    have zz : szR (mkRat (rtN q.num.natAbs : Int) (rtN q.den)) L := szR_nat (by omega) (by omega) hL1
    have bo := ball_Of (RatA_rv zz) (by omega)
    refine ⟨_, _, ?_, r0, Rat.le_refl, by rw [rr]; exact Rat.le_refl, by rw [rr]; exact Rat.le_refl, by rw [Rat.sub_self, Rat.zero_mul]; decide, szR_mono zz (by omega), szR_mono zz (by omega)⟩
    clear rr r0 zz mm
    obtain ⟨s, n, d, rfl, -⟩ := hv
    generalize mkRat (rtN q.num.natAbs : Int) (rtN q.den) = r at *
    refine Go.Ev.Fn.intro (fn := Tryz.f238) (body := (Tryz.f238).body.get!) (by kernel_rfl) (by kernel_rfl) (by kernel_rfl) (fun _ => rfl) (Nat.le_of_ble_eq_true (by kernel_rfl)) ?_; unfold Tryz.f238; simp only [Option.get!_some]
    repeat (first | (simp only [go_sem, Nat.reduceEqDiff, Nat.reduceAdd, Nat.reduceSub, Nat.reduceMul, Nat.reduceLeDiff, Nat.reduceLT, reduceIte, reduceCtorEq, Nat.succ_ne_zero, elemsC, Int.reduceToNat, Nat.reducePow, hs, e1, e2]) | (simp (disch := (first | omega | (simp only [AL, List.length_map]; omega))) only [AR, AL, ifT, ifF, take_all, List.length_cons, List.length_nil, Int.reduceToNat, Int.reducePow, Nat.reducePow, hs, e1, e2]) | (refine wk_intro (by kernel_rfl) ?_) | (refine vp_draw (id := 8) (l := [32, 35, 37]) (by kernel_rfl) ?_) | (refine vf_of (by first | exact n1 | exact sq | exact bo) ?_))
  · rw [if_neg h] at sq
    clear h
    have s1 := nat_shl (N := q.num.natAbs) (m := 2 * p) (by omega) (by omega)
    have l3 := lim_len_shl (a := q.num.natAbs) (n := 2 * p)
    have dv := nat_DivL (N := q.num.natAbs * 2 ^ (2 * p)) (D := q.den) (by omega) (by omega) (by omega)
    have l4 := lim_len_mono (Nat.div_le_self (q.num.natAbs * 2 ^ (2 * p)) q.den)
    have rt := root_Int (a := q.num.natAbs * 2 ^ (2 * p) / q.den) (by omega)
    have l5 := lim_len_mono (rtN_self (q.num.natAbs * 2 ^ (2 * p) / q.den))
    have o1 := nat_Of 1 (by omega)
    have l1' := lim_len1
    have s2 := nat_shl (N := 1) (m := p) (by omega) (by omega)
    have l6 := lim_len_shl (a := 1) (n := p)
    rw [Nat.one_mul] at s2 l6
    have l7 := lim_len_add (a := rtN (q.num.natAbs * 2 ^ (2 * p) / q.den)) (b := 1) (L := L + 34) (by omega) (by omega)
    have ad := nat_AddL (N := rtN (q.num.natAbs * 2 ^ (2 * p) / q.den)) (D := 1) (by omega) (by omega)
    have f1 := rat_OfL (s := false) (n := rtN (q.num.natAbs * 2 ^ (2 * p) / q.den)) (d := 2 ^ p) (by omega) (by omega)
    have f2 := rat_OfL (s := false) (n := rtN (q.num.natAbs * 2 ^ (2 * p) / q.den) + 1) (d := 2 ^ p) (by omega) (by omega)
    have P : 0 < 2 ^ p := Nat.pow_pos (by omega)
    have g1 := rtN_le (q.num.natAbs * 2 ^ (2 * p) / q.den)
    have g2 := lt_rtN (q.num.natAbs * 2 ^ (2 * p) / q.den)
    have m1 := mk_mulP (rtN (q.num.natAbs * 2 ^ (2 * p) / q.den) : Int) P
    have m2 := mk_mulP ((rtN (q.num.natAbs * 2 ^ (2 * p) / q.den) + 1 : Nat) : Int) P
    refine ⟨_, _, ?_, ?_, ?_, ?_, ?_, ?_, szR_nat (n := rtN (q.num.natAbs * 2 ^ (2 * p) / q.den)) (d := 2 ^ p) (by omega) (by omega) (by omega), szR_nat (n := rtN (q.num.natAbs * 2 ^ (2 * p) / q.den) + 1) (d := 2 ^ p) (by omega) (by omega) (by omega)⟩
    · rw [show sgn false (rtN (q.num.natAbs * 2 ^ (2 * p) / q.den)) = (rtN (q.num.natAbs * 2 ^ (2 * p) / q.den) : Int) from rfl] at f1
      rw [show sgn false (rtN (q.num.natAbs * 2 ^ (2 * p) / q.den) + 1) = ((rtN (q.num.natAbs * 2 ^ (2 * p) / q.den) + 1 : Nat) : Int) from rfl] at f2
      clear g1 g2 m1 m2
      rw [show ((2 * p : Nat) : Int) = 2 * (p : Int) by omega] at s1
      obtain ⟨s, n, d, rfl, -⟩ := hv
      generalize mkRat (rtN (q.num.natAbs * 2 ^ (2 * p) / q.den) : Int) (2 ^ p) = r1 at *
      generalize mkRat ((rtN (q.num.natAbs * 2 ^ (2 * p) / q.den) + 1 : Nat) : Int) (2 ^ p) = r2 at *
      generalize rtN (q.num.natAbs * 2 ^ (2 * p) / q.den) + 1 = R1 at *
      generalize rtN (q.num.natAbs * 2 ^ (2 * p) / q.den) = R at *
      generalize q.num.natAbs * 2 ^ (2 * p) / q.den = u at *
      generalize q.num.natAbs * 2 ^ (2 * p) % q.den = u' at *
      generalize q.num.natAbs * 2 ^ (2 * p) = t at *
      generalize 2 ^ p = P' at *
      refine Go.Ev.Fn.intro (fn := Tryz.f238) (body := (Tryz.f238).body.get!) (by kernel_rfl) (by kernel_rfl) (by kernel_rfl) (fun _ => rfl) (Nat.le_of_ble_eq_true (by kernel_rfl)) ?_; unfold Tryz.f238; simp only [Option.get!_some]
      repeat (first | (simp only [go_sem, Nat.reduceEqDiff, Nat.reduceAdd, Nat.reduceSub, Nat.reduceMul, Nat.reduceLeDiff, Nat.reduceLT, reduceIte, reduceCtorEq, Nat.succ_ne_zero, elemsC, Int.reduceToNat, Nat.reducePow, hs, e1, e2]) | (simp (disch := (first | omega | (simp only [AL, List.length_map]; omega))) only [AR, AL, ifT, ifF, take_all, List.length_cons, List.length_nil, Int.reduceToNat, Int.reducePow, Nat.reducePow, hs, e1, e2]) | (refine wk_intro (by kernel_rfl) ?_) | (refine vp_draw (id := 8) (l := [32, 35, 37]) (by kernel_rfl) ?_) | (refine vf_of (by first | exact n1 | exact sq | exact s1 | exact dv | exact rt | exact o1 | exact s2 | exact f1 | exact ad | exact f2) ?_))
    all_goals
      have m1' : mkRat (rtN (q.num.natAbs * 2 ^ (2 * p) / q.den) : Int) (2 ^ p) * p2 p = ((rtN (q.num.natAbs * 2 ^ (2 * p) / q.den) : Nat) : Rat) := m1
      have m2' : mkRat ((rtN (q.num.natAbs * 2 ^ (2 * p) / q.den) + 1 : Nat) : Int) (2 ^ p) * p2 p = ((rtN (q.num.natAbs * 2 ^ (2 * p) / q.den) + 1 : Nat) : Rat) := m2
      have PR := p2_pos p
      have eS : ((rtN (q.num.natAbs * 2 ^ (2 * p) / q.den) + 1 : Nat) : Rat) = ((rtN (q.num.natAbs * 2 ^ (2 * p) / q.den) : Nat) : Rat) + 1 := by exact_mod_cast rfl
      have R0 := nat_nonneg (rtN (q.num.natAbs * 2 ^ (2 * p) / q.den))
    · exact le_by PR (by rw [Rat.zero_mul]; exact Rat.le_trans R0 (by rw [← m1']; exact Rat.le_refl))
    · refine le_by PR ?_
      show mkRat (rtN (q.num.natAbs * 2 ^ (2 * p) / q.den) : Int) (2 ^ p) * p2 p ≤ mkRat ((rtN (q.num.natAbs * 2 ^ (2 * p) / q.den) + 1 : Nat) : Int) (2 ^ p) * p2 p
      rw [m1', m2', eS]
      grind
    · show mkRat (rtN (q.num.natAbs * 2 ^ (2 * p) / q.den) : Int) (2 ^ p) * mkRat (rtN (q.num.natAbs * 2 ^ (2 * p) / q.den) : Int) (2 ^ p) ≤ q
      have a1 := nat_le_rat (Nat.mul_le_mul_right q.den g1)
      have a2 := nat_le_rat (Nat.div_mul_le_self (q.num.natAbs * 2 ^ (2 * p)) q.den)
      have a3 := Rat.le_trans a1 a2
      rw [show 2 ^ (2 * p) = 2 ^ p * 2 ^ p by rw [← Nat.pow_add]; congr 1; omega] at *
      rw [nn_mul, nn_mul, nn_mul, nn_mul, qa] at a3
      generalize mkRat (rtN (q.num.natAbs * (2 ^ p * 2 ^ p) / q.den) : Int) (2 ^ p) = r at *
      generalize ((rtN (q.num.natAbs * (2 ^ p * 2 ^ p) / q.den) : Nat) : Rat) = R at *
      have PP : (0 : Rat) < p2 p * p2 p * (q.den : Rat) := Rat.mul_pos (Rat.mul_pos PR PR) DR
      refine le_by PP ?_
      have e1 : r * r * (p2 p * p2 p * (q.den : Rat)) = (r * p2 p) * (r * p2 p) * (q.den : Rat) := by grind
      have e2 : q * (p2 p * p2 p * (q.den : Rat)) = q * (q.den : Rat) * (p2 p * p2 p) := by grind
      rw [e1, e2, m1', qn]
      exact a3
    · show q ≤ mkRat ((rtN (q.num.natAbs * 2 ^ (2 * p) / q.den) + 1 : Nat) : Int) (2 ^ p) * mkRat ((rtN (q.num.natAbs * 2 ^ (2 * p) / q.den) + 1 : Nat) : Int) (2 ^ p)
      have a1 := nat_le_rat (Nat.mul_le_mul_right q.den (show q.num.natAbs * 2 ^ (2 * p) / q.den + 1 ≤ _ from g2))
      have a2 := le_floor (a := q.num.natAbs * 2 ^ (2 * p)) (d := q.den) D
      rw [← nn_mul] at a2
      have a3 := Rat.le_trans a2 a1
      rw [show 2 ^ (2 * p) = 2 ^ p * 2 ^ p by rw [← Nat.pow_add]; congr 1; omega] at *
      rw [nn_mul, nn_mul, nn_mul, nn_mul, qa] at a3
      generalize mkRat ((rtN (q.num.natAbs * (2 ^ p * 2 ^ p) / q.den) + 1 : Nat) : Int) (2 ^ p) = r at *
      generalize ((rtN (q.num.natAbs * (2 ^ p * 2 ^ p) / q.den) + 1 : Nat) : Rat) = R at *
      have PP : (0 : Rat) < p2 p * p2 p * (q.den : Rat) := Rat.mul_pos (Rat.mul_pos PR PR) DR
      refine le_by PP ?_
      have e1 : r * r * (p2 p * p2 p * (q.den : Rat)) = (r * p2 p) * (r * p2 p) * (q.den : Rat) := by grind
      have e2 : q * (p2 p * p2 p * (q.den : Rat)) = q * (q.den : Rat) * (p2 p * p2 p) := by grind
      rw [e1, e2, m2', qn]
      exact a3
    · show (mkRat ((rtN (q.num.natAbs * 2 ^ (2 * p) / q.den) + 1 : Nat) : Int) (2 ^ p) - mkRat (rtN (q.num.natAbs * 2 ^ (2 * p) / q.den) : Int) (2 ^ p)) * p2 p ≤ 1
      have e : ∀ a b c : Rat, (a - b) * c = a * c - b * c := by intro a b c; grind
      rw [e, m1', m2', eS]
      grind
end Go.Proofs.YtecjelnpmcnbaaaGreat
namespace Go.Ev
def piW : Nat := 16525204305188294122575967610974940178026148430521517253674428844222689879174614411560235390899801560652737794125520858649187813498260676587492720299944119139547246105762461028318293173887444219654040121887534587
def piOk2 (p : Nat) : Bool := match piF (p + 64) with
  | some (lo, hi) => pin (lo / 2 ^ 64) fun a => Nat.beq a ((hi - 1) / 2 ^ 64) && (Nat.ble (a * 2 ^ (700 - p)) piW && Nat.ble piW ((a + 1) * 2 ^ (700 - p)))
  | none => false
theorem pi_ok2 : allFrom piOk2 241 300 = true := by kernel_rfl
def ivOk2 (w : Nat) : Bool := match piIv w with
  | some (lo, hi) => Nat.ble (lo * 2 ^ (700 - w)) piW && Nat.ble piW (hi * 2 ^ (700 - w))
  | none => false
theorem iv_ok2 : allFrom ivOk2 221 320 = true := by kernel_rfl
end Go.Ev
namespace Go.Proofs.YtecjelnpmcnbaaaGreat
open Go.Ev
theorem ball_okS {lo hi : Rat} {w : Nat} (h0 : 0 ≤ lo) (h1 : lo ≤ hi) (h2 : lo ≤ 1) (h3 : (hi - lo) * p2 w ≤ 1) : okS (2 ^ w) (unN lo w) (unN hi w + 1) 4 := by
  have P := p2_pos w
  have a := unN_le h0 w
  have b := unN_le (show 0 ≤ hi by grind) w
  have c := Rat.mul_le_mul_of_nonneg_right h2 (show 0 ≤ p2 w by grind)
  have d := Rat.mul_le_mul_of_nonneg_right h1 (show 0 ≤ p2 w by grind)
  have n1 : ((unN lo w + 1 : Nat) : Rat) = ((unN lo w : Nat) : Rat) + 1 := by exact_mod_cast rfl
  have n2 : ((unN lo w + 4 : Nat) : Rat) = ((unN lo w : Nat) : Rat) + 4 := by exact_mod_cast rfl
  have n3 : ((unN hi w + 1 : Nat) : Rat) = ((unN hi w : Nat) : Rat) + 1 := by exact_mod_cast rfl
  have n4 : ((2 ^ w + 4 : Nat) : Rat) = p2 w + 4 := by exact_mod_cast rfl
  refine ⟨?_, ?_, ?_⟩
  · have : ((unN lo w : Nat) : Rat) ≤ ((unN hi w + 1 : Nat) : Rat) := by grind
    exact_mod_cast this
  · have : ((unN hi w + 1 : Nat) : Rat) ≤ ((unN lo w + 4 : Nat) : Rat) := by rw [n2, n3]; grind
    exact_mod_cast this
  · have : ((unN hi w + 1 : Nat) : Rat) ≤ ((2 ^ w + 4 : Nat) : Rat) := by rw [n3, n4]; grind
    exact_mod_cast this
theorem okS_mul2 {P a b c d e g : Nat} (hP : 100000000 ≤ P) (he : e ≤ 10000) (hg : g ≤ 10000) (h : okS P a b e) (h2 : okS P c d g) : okS P (a * c / P) (b * d / P + 1) (2 * (e + g) + 2) := by
  obtain ⟨h1, h3, h4⟩ := h
  obtain ⟨k1, k3, k4⟩ := h2
  have hP0 : 0 < P := by omega
  have m1 := Nat.mul_le_mul h1 k1
  refine ⟨Nat.le_succ_of_le (Nat.div_le_div_right m1), ?_, ?_⟩
  · have d1 := Nat.div_add_mod (a * c) P
    have d2 := Nat.mod_lt (a * c) hP0
    have e1 : b * d ≤ a * c + (e * d + b * g) := by
      have x1 : b * d ≤ (a + e) * d := Nat.mul_le_mul_right d h3
      have x2 : a * d ≤ a * (c + g) := Nat.mul_le_mul_left a k3
      have x3 : a * g ≤ b * g := Nat.mul_le_mul_right g h1
      rw [Nat.add_mul] at x1
      rw [Nat.mul_add] at x2
      omega
    have e2 : e * d ≤ e * (2 * P) := Nat.mul_le_mul_left e (by omega)
    have e3 : b * g ≤ 2 * P * g := Nat.mul_le_mul_right g (by omega)
    have e4 : b * d < (a * c / P + (2 * (e + g) + 2)) * P := by
      have y1 : (a * c / P + (2 * (e + g) + 2)) * P = P * (a * c / P) + (e * (2 * P) + 2 * P * g + 2 * P) := by
        rw [Nat.add_mul, Nat.mul_comm _ P]
        congr 1
        grind
      omega
    have := (Nat.div_lt_iff_lt_mul hP0).2 e4
    omega
  · have e1 : b * d ≤ (P + e) * (P + g) := Nat.mul_le_mul h4 k4
    have e2 : (P + e) * (P + g) = P * P + (e + g) * P + e * g := by grind
    have e3 : e * g ≤ 10000 * 10000 := Nat.mul_le_mul he hg
    have e4 : b * d < (P + (e + g) + 2) * P := by
      have : (P + (e + g) + 2) * P = P * P + (e + g) * P + 2 * P := by rw [Nat.add_mul, Nat.add_mul]
      omega
    have := (Nat.div_lt_iff_lt_mul hP0).2 e4
    omega
end Go.Proofs.YtecjelnpmcnbaaaGreat
namespace Go.Proofs.YtecjelnpmcnbaaaGreat
open Go.Ev
theorem incb_pow {q : Rat} {n w L : Nat} (hn : n ≤ 30) (hz : szR q L) (hL1 : 1 ≤ L) (hL : L ≤ 250) (h0 : 0 ≤ q) (h1 : q ≤ 1) (hw : w ≤ 512) (hw0 : 60 ≤ w) :
    ∃ X1 X2 : Nat, ∃ s1 s2 : Rat, Go.Ev.Fn CX 242 [.int .i64 (n : Int), rv q, .int .i64 (w : Int)] (spanV X1 X2) ∧ okS (2 ^ w) X1 X2 1100 ∧ 0 ≤ s1 ∧ s1 ≤ s2 ∧ s1 * s1 ≤ q ∧ q ≤ s2 * s2 ∧
      ∀ s, s1 ≤ s → s ≤ s2 → Enc w X1 X2 (pwR q (n / 2) * (if n % 2 = 1 then s else 1)) := by
  have k1 := okS_pw (A := n / 2) (w := w) h0 h1 (by omega)
  have pe : Enc w (pwN q (n / 2) w).1 (pwN q (n / 2) w).2 (pwR q (n / 2)) := by
    have one : Enc w (2 ^ w) (2 ^ w + 1) 1 := by
      refine ⟨by rw [Rat.one_mul]; exact Rat.le_refl, ?_⟩
      rw [Rat.one_mul]
      exact_mod_cast Nat.le_succ (2 ^ w)
    have un : Enc w (unN q w) (unN q w + 1) q := by
      have := unN_le h0 w
      exact ⟨this.1, this.2⟩
    have h := powGo_enc 4 (n / 2) _ _ _ _ (by omega) one un
    rw [Rat.one_mul] at h
    exact h
  by_cases hod : n % 2 = 1
  · obtain ⟨lo, hi, f, g1, g2, g3, g4, g5, y1, y2⟩ := root_Sqrt (p := w) (RatA_rv hz) h0 hL1 (by omega) (by omega)
    have lo1 : lo ≤ 1 := by
      rcases Rat.le_total (a := lo) (b := 1) with g | g
      · exact g
      · have a1 := Rat.mul_le_mul_of_nonneg_left g g1
        grind
    have r : Go.Ev.Fn CX 228 [rv q, .int .i64 (w : Int)] (spanV (unN q w) (unN q w + 1)) := fix_Rat hz (by omega) (w := w) (by omega)
    obtain ⟨l1, l2⟩ := unN_len1 h0 h1 (show w ≤ 900 by omega)
    have p : Go.Ev.Fn CX 248 [spanV (unN q w) (unN q w + 1), .int .i64 ((n / 2 : Nat) : Int), .int .i64 (w : Int)] (spanV (pwN q (n / 2) w).1 (pwN q (n / 2) w).2) := fix_Power (a1 := unN q w) (a2 := unN q w + 1) (n := n / 2) (w := w) (F := 4) (by omega) (by omega) (by omega) l2 (by omega) (by omega)
    have bb := fix_Ball (w := w) y1 y2 (by omega) (by omega)
    have k2 := ball_okS (w := w) g1 g2 lo1 g5
    have hP : 2 ^ 60 ≤ 2 ^ w := Nat.pow_le_pow_right (n := 2) (by omega) hw0
    have k3 := okS_mul2 (by omega) (by omega) (by omega) k1 k2
    obtain ⟨a1, a2⟩ := okS_len k1 (by omega) (show w ≤ 900 by omega) (by omega)
    obtain ⟨b1, b2⟩ := okS_len k2 (by omega) (show w ≤ 900 by omega) (by omega)
    have mu := fix_Mul (a := (pwN q (n / 2) w).1) (b := (pwN q (n / 2) w).2) (c := unN lo w) (d := unN hi w + 1) (w := w) (by omega) (by omega) (by omega) (by omega) (by omega) (by omega)
    refine ⟨_, _, lo, hi, ?_, okS_mono k3 (by omega), g1, g2, g3, g4, ?_⟩
    · have an := and_one64 (a := n) (by omega)
      rw [hod] at an
      have td : (n : Int).tdiv 2 = ((n / 2 : Nat) : Int) := _root_.id rfl
      clear k1 k2 k3 pe g1 g2 g3 g4 g5
      generalize (pwN q (n / 2) w).1 * unN lo w / 2 ^ w = Z1 at *
      generalize (pwN q (n / 2) w).2 * (unN hi w + 1) / 2 ^ w + 1 = Z2 at *
      generalize (pwN q (n / 2) w).1 = x at *
      generalize (pwN q (n / 2) w).2 = y at *
      generalize unN hi w + 1 = u2 at *
      generalize unN lo w = u1 at *
      generalize unN q w = u at *
      refine Go.Ev.Fn.intro (fn := Tryz.f242) (body := (Tryz.f242).body.get!) (by kernel_rfl) (by kernel_rfl) (by kernel_rfl) (fun _ => rfl) (Nat.le_of_ble_eq_true (by kernel_rfl)) ?_; unfold Tryz.f242; simp only [Option.get!_some]
      repeat (first | (simp only [go_sem, Nat.reduceEqDiff, Nat.reduceAdd, Nat.reduceSub, Nat.reduceMul, Nat.reduceLeDiff, Nat.reduceLT, reduceIte, reduceCtorEq, Nat.succ_ne_zero, elemsC, Int.reduceToNat, Nat.reducePow, an, td]) | (simp (disch := (first | omega | (simp only [AL, List.length_map]; omega))) only [AR, AL, ifT, ifF, take_all, List.length_cons, List.length_nil, Int.reduceToNat, Int.reducePow, Nat.reducePow, an, td]) | (refine wk_intro (by kernel_rfl) ?_) | (refine vp_draw (id := 4) (l := []) (by kernel_rfl) ?_) | (refine vf_of (by first | exact r | exact p | exact f | exact bb | exact mu) ?_))
    · intro s hs1 hs2
      rw [if_pos hod]
      exact enc_mul pe (ball_enc g1 hs1 hs2 w)
  · have h := incb_power (A := n / 2) (w := w) (by omega) hz (by omega) (unN_len1 h0 h1 (show w ≤ 900 by omega)) (by omega) (by omega)
    rw [show 2 * ((n / 2 : Nat) : Int) = (n : Int) by omega] at h
    refine ⟨_, _, 0, 1, h, okS_mono k1 (by omega), Rat.le_refl, by decide, by rw [Rat.zero_mul]; exact h0, by rw [Rat.mul_one]; exact h1, ?_⟩
    intro s _ _
    rw [if_neg hod, Rat.mul_one]
    exact pe
def PI0 : Rat := mkRat (piW : Int) (2 ^ 700)
theorem mk_p2n (a p : Nat) : mkRat (a : Int) (2 ^ p) * p2 p = (a : Rat) := mk_mulP (a : Int) (Nat.pow_pos (by omega))
theorem PI0_mul : PI0 * p2 700 = (piW : Rat) := mk_p2n piW 700
theorem p2_plus (a b : Nat) : p2 (a + b) = p2 a * p2 b := by
  have : ((2 ^ a : Nat) : Rat) * ((2 ^ b : Nat) : Rat) = ((2 ^ a * 2 ^ b : Nat) : Rat) := by exact_mod_cast rfl
  show ((2 ^ (a + b) : Nat) : Rat) = ((2 ^ a : Nat) : Rat) * ((2 ^ b : Nat) : Rat)
  rw [this, Nat.pow_add]
theorem pi_lo {a p : Nat} (hp : p ≤ 700) (h : a * 2 ^ (700 - p) ≤ piW) : (a : Rat) ≤ PI0 * p2 p := by
  refine le_by (p2_pos (700 - p)) ?_
  have e : PI0 * p2 p * p2 (700 - p) = (piW : Rat) := by
    rw [← PI0_mul, Rat.mul_assoc, ← p2_plus, show p + (700 - p) = 700 by omega]
  rw [e]
  have e2 : (a : Rat) * p2 (700 - p) = ((a * 2 ^ (700 - p) : Nat) : Rat) := by exact_mod_cast rfl
  rw [e2]
  exact_mod_cast h
theorem pi_hi {a p : Nat} (hp : p ≤ 700) (h : piW ≤ a * 2 ^ (700 - p)) : PI0 * p2 p ≤ (a : Rat) := by
  refine le_by (p2_pos (700 - p)) ?_
  have e : PI0 * p2 p * p2 (700 - p) = (piW : Rat) := by
    rw [← PI0_mul, Rat.mul_assoc, ← p2_plus, show p + (700 - p) = 700 by omega]
  rw [e]
  have e2 : (a : Rat) * p2 (700 - p) = ((a * 2 ^ (700 - p) : Nat) : Rat) := by exact_mod_cast rfl
  rw [e2]
  exact_mod_cast h
theorem arcs_Pi2 {p : Nat} (h1 : 300 ≤ p) (h2 : p ≤ 512) : ∃ a : Nat, Go.Ev.Fn CX 219 [.int .i64 (p : Int)] (ballR (mkRat (a : Int) (2 ^ p)) (mkRat ((a + 1 : Nat) : Int) (2 ^ p))) ∧ (a : Rat) ≤ PI0 * p2 p ∧ PI0 * p2 p ≤ ((a + 1 : Nat) : Rat) ∧ 2 * 2 ^ p ≤ a ∧ a ≤ 4 * 2 ^ p := by
  have h := allFrom_at pi_ok2 p h1 (by omega)
  unfold piOk2 at h
  split at h
  · rename_i lo hi hpi
    rw [pin_eq, Bool.and_eq_true, Bool.and_eq_true] at h
    obtain ⟨k1, k2, k3⟩ := h
    have k1 := Nat.eq_of_beq_eq_true k1
    have k2 := Nat.le_of_ble_eq_true k2
    have k3 := Nat.le_of_ble_eq_true k3
    obtain ⟨f, g1, g2⟩ := arcs_pi (by omega) (by omega) hpi
    have c := fix_Certain1 (p := p) (sp := 64) f (by omega) (by omega) (by omega) (by omega) (by omega) k1
    have hh := arcs_held (p : Int)
    rw [if_neg (by omega), if_neg (by omega)] at hh
    have sp : 2 ^ 700 = 2 ^ p * 2 ^ (700 - p) := by rw [← Nat.pow_add]; congr 1; omega
    have q0 : 0 < 2 ^ (700 - p) := Nat.pow_pos (by omega)
    have z3 : 3 * 2 ^ 700 ≤ piW := by decide +kernel
    have z4 : piW ≤ 4 * 2 ^ 700 := by decide +kernel
    have b1 : 2 * 2 ^ p ≤ lo / 2 ^ 64 := by
      have x1 : 3 * 2 ^ p * 2 ^ (700 - p) ≤ (lo / 2 ^ 64 + 1) * 2 ^ (700 - p) := by rw [Nat.mul_assoc, ← sp]; exact Nat.le_trans z3 k3
      have x2 := Nat.le_of_mul_le_mul_right x1 q0
      have x3 : 0 < 2 ^ p := Nat.pow_pos (by omega)
      omega
    have b2 : lo / 2 ^ 64 ≤ 4 * 2 ^ p := by
      have x1 : lo / 2 ^ 64 * 2 ^ (700 - p) ≤ 4 * 2 ^ p * 2 ^ (700 - p) := by rw [Nat.mul_assoc 4, ← sp]; exact Nat.le_trans k2 z4
      exact Nat.le_of_mul_le_mul_right x1 q0
    refine ⟨lo / 2 ^ 64, ?_, pi_lo (by omega) k2, pi_hi (by omega) k3, b1, b2⟩
    clear k2 k3 f hpi b1 b2 sp z3 z4
    generalize mkRat ((lo / 2 ^ 64 : Nat) : Int) (2 ^ p) = q1 at *
    generalize mkRat ((lo / 2 ^ 64 + 1 : Nat) : Int) (2 ^ p) = q2 at *
    refine Go.Ev.Fn.intro (fn := Tryz.f219) (body := (Tryz.f219).body.get!) (by kernel_rfl) (by kernel_rfl) (by kernel_rfl) (fun _ => rfl) (Nat.le_of_ble_eq_true (by kernel_rfl)) ?_; unfold Tryz.f219; simp only [Option.get!_some]
    repeat (first | (simp only [go_sem, Nat.reduceEqDiff, Nat.reduceAdd, Nat.reduceSub, Nat.reduceMul, Nat.reduceLeDiff, Nat.reduceLT, reduceIte, reduceCtorEq, Nat.succ_ne_zero, elemsC, Int.reduceToNat, Nat.reducePow]) | (simp (disch := (first | omega | (simp only [AL, List.length_map]; omega))) only [AR, AL, ifT, ifF, take_all, List.length_cons, List.length_nil, Int.reduceToNat, Int.reducePow, Nat.reducePow]) | (refine wk_intro (by kernel_rfl) ?_) | (refine vf_of (by first | exact hh | exact c) ?_))
  · cases h
theorem inv_gap {P a : Nat} (hP : 4 ≤ P) (ha : 2 * P ≤ a) : okS P (P * P / (a + 2)) (P * P / a + 1) 3 := by
  have u1 : P * P / (a + 2) ≤ P / 2 := by
    rw [Nat.div_le_iff_le_mul (by omega)]
    have h1 : 2 * (P * P) ≤ (P) * (a + 2) := by
      have := Nat.mul_le_mul_left P (show 2 * P ≤ a + 2 by omega)
      rw [Nat.mul_left_comm] at this
      exact this
    have h2 : P * (a + 2) ≤ (2 * (P / 2) + 1) * (a + 2) := Nat.mul_le_mul_right _ (by omega)
    have h3 : (2 * (P / 2) + 1) * (a + 2) = 2 * (P / 2 * (a + 2)) + (a + 2) := by rw [Nat.add_mul, Nat.mul_assoc, Nat.one_mul]
    omega
  have d1 := Nat.div_add_mod (P * P) (a + 2)
  have d2 := Nat.mod_lt (P * P) (show 0 < a + 2 by omega)
  generalize hu : P * P / (a + 2) = u at *
  have v1 : P * P / a ≤ u + 2 := by
    refine Nat.le_of_lt_succ ((Nat.div_lt_iff_lt_mul (by omega)).2 ?_)
    have e1 : (a + 2) * u = a * u + 2 * u := Nat.add_mul _ _ _
    have e2 : (u + 2).succ * a = a * u + 3 * a := by
      rw [show (u + 2).succ = u + 3 by omega, Nat.add_mul, Nat.mul_comm u a]
    omega
  refine ⟨?_, by omega, by omega⟩
  have := Nat.div_le_div_left (show a ≤ a + 2 by omega) (show 0 < a by omega) (a := P * P)
  omega
end Go.Proofs.YtecjelnpmcnbaaaGreat
namespace Go.Proofs.YtecjelnpmcnbaaaGreat
open Go.Ev
theorem gap_mul {P U1 U2 i1 i2 g T : Nat} (hP : 4 ≤ P) (h1 : U1 ≤ U2) (h2 : U2 ≤ U1 + g) (h3 : U2 ≤ T * P) (h : okS P i1 i2 3) : U1 * i1 / P ≤ U2 * i2 / P + 1 ∧ U2 * i2 / P + 1 ≤ U1 * i1 / P + (2 * g + 3 * T + 3) ∧ U2 * i2 / P + 1 ≤ 2 * (T * P) + 1 := by
  obtain ⟨k1, k2, k3⟩ := h
  have hP0 : 0 < P := by omega
  refine ⟨Nat.le_succ_of_le (Nat.div_le_div_right (Nat.mul_le_mul h1 k1)), ?_, ?_⟩
  · have d1 := Nat.div_add_mod (U1 * i1) P
    have d2 := Nat.mod_lt (U1 * i1) hP0
    have e1 : U2 * i2 ≤ U1 * i1 + (g * i2 + U2 * 3) := by
      have x1 : U2 * i2 ≤ (U1 + g) * i2 := Nat.mul_le_mul_right i2 h2
      have x2 : U1 * i2 ≤ U1 * (i1 + 3) := Nat.mul_le_mul_left U1 k2
      rw [Nat.add_mul] at x1
      rw [Nat.mul_add] at x2
      omega
    have e2 : g * i2 ≤ g * (2 * P) := Nat.mul_le_mul_left g (by omega)
    have e4 : U2 * i2 < (U1 * i1 / P + (2 * g + 3 * T + 1)) * P := by
      have y1 : (U1 * i1 / P + (2 * g + 3 * T + 1)) * P = P * (U1 * i1 / P) + (g * (2 * P) + 3 * (T * P) + P) := by
        rw [Nat.add_mul, Nat.mul_comm _ P]
        congr 1
        grind
      omega
    have := (Nat.div_lt_iff_lt_mul hP0).2 e4
    omega
  · have e1 : U2 * i2 ≤ U2 * (2 * P) := Nat.mul_le_mul_left _ (by omega)
    have e2 : U2 * (2 * P) ≤ T * P * (2 * P) := Nat.mul_le_mul_right _ h3
    have e3 : T * P * (2 * P) = 2 * (T * P) * P := by grind
    have : U2 * i2 / P ≤ 2 * (T * P) := Nat.div_le_of_le_mul (by rw [Nat.mul_comm P]; omega)
    omega
theorem unN_exact (A w : Nat) : unN (mkRat (A : Int) (2 ^ w)) w = A := by
  have y1 := mk_p2n A w
  have PW := p2_pos w
  have m0 : 0 ≤ mkRat (A : Int) (2 ^ w) := le_by PW (by rw [y1, Rat.zero_mul]; exact nat_nonneg A)
  generalize mkRat (A : Int) (2 ^ w) = q at *
  have h := num_den q
  have h2 : ((q.num.natAbs : Nat) : Rat) = (q.num : Rat) := by
    have : (q.num.natAbs : Int) = q.num := Int.natAbs_of_nonneg (Rat.num_nonneg.2 m0)
    rw [← this]; rfl
  have e : ((q.num.natAbs * 2 ^ w : Nat) : Rat) = ((A * q.den : Nat) : Rat) := by
    have c1 : ((q.num.natAbs * 2 ^ w : Nat) : Rat) = ((q.num.natAbs : Nat) : Rat) * p2 w := by exact_mod_cast rfl
    have c2 : ((A * q.den : Nat) : Rat) = (A : Rat) * (q.den : Rat) := by exact_mod_cast rfl
    rw [c1, c2, h2, ← h, ← y1]
    grind
  have e2 : q.num.natAbs * 2 ^ w = A * q.den := by exact_mod_cast e
  show q.num.natAbs * 2 ^ w / q.den = A
  rw [e2, Nat.mul_div_cancel _ q.den_pos]
def betOk (a b : Nat) : Bool := Nat.ble ((beta2 a b).den * 2) (1048576 * ((beta2 a b).num.natAbs * a)) && Nat.ble 1 (beta2 a b).num.natAbs
theorem bets_ok : (List.range 20).all (fun a => (List.range 20).all fun b => betOk (a + 1) (b + 1)) = true := by decide +kernel
theorem bet_ok {a b : Nat} (h1 : 1 ≤ a) (h2 : 1 ≤ b) (h3 : a ≤ 20) (h4 : b ≤ 20) : (beta2 a b).den * 2 ≤ 1048576 * ((beta2 a b).num.natAbs * a) ∧ 0 < (beta2 a b).num.natAbs * a := by
  have h := List.all_eq_true.1 bets_ok (a - 1) (List.mem_range.2 (by omega))
  have h' := List.all_eq_true.1 h (b - 1) (List.mem_range.2 (by omega))
  rw [show a - 1 + 1 = a by omega, show b - 1 + 1 = b by omega] at h'
  unfold betOk at h'
  rw [Bool.and_eq_true] at h'
  exact ⟨Nat.le_of_ble_eq_true h'.1, Nat.mul_pos (Nat.le_of_ble_eq_true h'.2) (by omega)⟩
def fstR (a b : Nat) (x sx sy : Rat) : Rat :=
  (pwR x (a / 2) * (if a % 2 = 1 then sx else 1)) * (pwR (1 - x) (b / 2) * (if b % 2 = 1 then sy else 1)) * (((beta2 a b).den * 2 : Nat) : Rat) / (((beta2 a b).num.natAbs * a : Nat) : Rat) * (if a % 2 * (b % 2) = 1 then 1 / PI0 else 1)
set_option maxHeartbeats 1000000 in
theorem incb_fst {x : Rat} {a b w L : Nat} (ha : 1 ≤ a) (ha2 : a ≤ 20) (hb : 1 ≤ b) (hb2 : b ≤ 20) (hz : szR x L) (hL1 : 1 ≤ L) (hL : L ≤ 200) (h0 : 0 ≤ x) (h1 : x ≤ 1) (hw0 : 300 ≤ w) (hw : w ≤ 512) :
    ∃ F1 F2 : Nat, ∃ p1 p2' q1 q2 : Rat, Go.Ev.Fn CX 233 [.int .i64 (a : Int), .int .i64 (b : Int), rv x, .int .i64 (w : Int)] (spanV F1 F2) ∧ F1 ≤ F2 ∧ F2 ≤ F1 + 2 ^ 45 ∧ F2 ≤ 2 ^ (w + 25) ∧
      p1 ≤ p2' ∧ 0 ≤ p1 ∧ p1 * p1 ≤ x ∧ x ≤ p2' * p2' ∧ q1 ≤ q2 ∧ 0 ≤ q1 ∧ q1 * q1 ≤ 1 - x ∧ 1 - x ≤ q2 * q2 ∧
      ∀ sx sy, p1 ≤ sx → sx ≤ p2' → q1 ≤ sy → sy ≤ q2 → Enc w F1 F2 (fstR a b x sx sy) := by
  have one1 : szR 1 1 := ⟨lim_len_lt (by decide +kernel), lim_len_lt (by decide +kernel)⟩
  have zy := szR_sub one1 hz (by omega)
  obtain ⟨X1, X2, p1, p2', f1, k1, a0, a1, a2, a3, ex⟩ := incb_pow (n := a) (w := w) (by omega) hz hL1 (by omega) h0 h1 (by omega) (by omega)
  obtain ⟨Y1, Y2, q1, q2, f2, k2, b0, b1, b2, b3, ey⟩ := incb_pow (n := b) (w := w) (by omega) zy (by omega) (by omega) (show 0 ≤ 1 - x by clear f1 k1 ex; grind) (show 1 - x ≤ 1 by clear f1 k1 ex; grind) (by omega) (by omega)
  have i1 := rat_Int 1 (by omega)
  have sb := rat_Sub (RatA_rv one1) (RatA_rv hz) (by omega) hL1 (by omega)
  rw [show ((1 : Int) : Rat) = 1 from rfl] at i1
  have hP : 2 ^ 60 ≤ 2 ^ w := Nat.pow_le_pow_right (n := 2) (by omega) (by omega)
  obtain ⟨lx1, lx2⟩ := okS_len k1 (by omega) (show w ≤ 900 by omega) (by omega)
  obtain ⟨ly1, ly2⟩ := okS_len k2 (by omega) (show w ≤ 900 by omega) (by omega)
  have mu := fix_Mul (a := X1) (b := X2) (c := Y1) (d := Y2) (w := w) (by omega) (by omega) (by omega) (by omega) (by omega) (by omega)
  have k3 := okS_mul2 (by omega) (by omega) (by omega) k1 k2
  have em := fun sx sy (u1 : p1 ≤ sx) (u2 : sx ≤ p2') (v1 : q1 ≤ sy) (v2 : sy ≤ q2) => enc_mul (ex sx u1 u2) (ey sy v1 v2)
  generalize X1 * Y1 / 2 ^ w = M1 at *
  generalize X2 * Y2 / 2 ^ w + 1 = M2 at *
  obtain ⟨lm1, lm2⟩ := okS_len k3 (by omega) (show w ≤ 900 by omega) (by omega)
  have be := gam_Beta a b ha (by omega) hb (by omega)
  obtain ⟨c1, c2⟩ := bet_ok ha hb ha2 hb2
  obtain ⟨z1, z2⟩ := beta2_size (a := a) (b := b) (by omega) (by omega)
  have o2 := nat_Of 2 (by omega)
  have oa := nat_Of a (by omega)
  have l2 : (lim 2).length ≤ 1 := lim_len_one (by decide)
  have la : (lim a).length ≤ 1 := lim_len_one (by omega)
  have m1 := nat_MulL (N := (beta2 a b).den) (D := 2) (by omega) (by omega)
  have m2 := nat_MulL (N := (beta2 a b).num.natAbs) (D := a) (by omega) (by omega)
  have ln1 := lim_len_mul (a := (beta2 a b).den) (b := 2)
  have ln2 := lim_len_mul (a := (beta2 a b).num.natAbs) (b := a)
  have ti := fix_Times (a := M1) (b := M2) (n := (beta2 a b).den * 2) (d := (beta2 a b).num.natAbs * a) (by omega) (by omega) (by omega) (by omega) (by omega)
  have et := fun sx sy (u1 : p1 ≤ sx) (u2 : sx ≤ p2') (v1 : q1 ≤ sy) (v2 : sy ≤ q2) => enc_times (n := (beta2 a b).den * 2) (d := (beta2 a b).num.natAbs * a) c2 (em sx sy u1 u2 v1 v2)
  have gs := quo_sub (n := (beta2 a b).den * 2) (m := (beta2 a b).num.natAbs * a) k3.1 c2
  have gq := quo_le (v := M2 - M1) (n := (beta2 a b).den * 2) (m := (beta2 a b).num.natAbs * a) (c := 1048576) (d := 1) c2 (by omega)
  have gr := quo_le (v := M2) (n := (beta2 a b).den * 2) (m := (beta2 a b).num.natAbs * a) (c := 1048576) (d := 1) c2 (by omega)
  have gm : M1 * ((beta2 a b).den * 2) / ((beta2 a b).num.natAbs * a) ≤ M2 * ((beta2 a b).den * 2) / ((beta2 a b).num.natAbs * a) := Nat.div_le_div_right (Nat.mul_le_mul_right _ k3.1)
  have k31 := k3.1
  have k32 := k3.2.1
  have k33 := k3.2.2
  have hw25 : 2 ^ (w + 25) = 2 ^ w * 33554432 := by rw [Nat.pow_add]
  unfold fstR
  generalize hb2' : beta2 a b = be2 at *
  generalize hn2 : be2.den * 2 = D2 at *
  generalize hd2 : be2.num.natAbs * a = N2 at *
  generalize M1 * D2 / N2 = U1 at *
  generalize hU2 : M2 * D2 / N2 + 1 = U2 at *
  have gap : U2 ≤ U1 + 8589934592 := by omega
  have top : U2 ≤ 2097152 * 2 ^ w := by omega
  have hw46 : 2 ^ (w + 22) = 2097152 * 2 * 2 ^ w := by rw [Nat.pow_add, Nat.mul_comm]
  have lu2 := lim_len_p2 (n := U2) (w := w + 22) (by omega) (by omega)
  have lu1 := lim_len_mono (show U1 ≤ U2 by omega)
  by_cases hpi : a % 2 * (b % 2) = 1
  · obtain ⟨A, fp, g1, g2, g3, g4⟩ := arcs_Pi2 (p := w) hw0 hw
    generalize PI0 = W0 at *
    have u1 := unN_exact A w
    have u2 := unN_exact (A + 1) w
    have sA : szR (mkRat (A : Int) (2 ^ w)) 45 ∧ szR (mkRat ((A + 1 : Nat) : Int) (2 ^ w)) 45 := by
      have hb3 : 2 ^ (w + 3) = 8 * 2 ^ w := by rw [Nat.pow_add, Nat.mul_comm]
      have x1 := lim_len_p2 (n := A) (w := w + 3) (by omega) (by omega)
      have x2 := lim_len_p2 (n := A + 1) (w := w + 3) (by omega) (by omega)
      have x3 := lim_len_p2 (n := 2 ^ w) (w := w) (Nat.le_refl _) (by omega)
      exact ⟨szR_nat (by omega) (by omega) (by omega), szR_nat (by omega) (by omega) (by omega)⟩
    have bl := fix_Ball (w := w) sA.1 sA.2 (by omega) (by omega)
    rw [u1, u2] at bl
    have hb3 : 2 ^ (w + 3) = 8 * 2 ^ w := by rw [Nat.pow_add, Nat.mul_comm]
    have x1 := lim_len_p2 (n := A) (w := w + 3) (by omega) (by omega)
    have x2 := lim_len_p2 (n := A + 1 + 1) (w := w + 3) (by omega) (by omega)
    have iv := fix_Inverse (a := A) (b := A + 1 + 1) (w := w) (by omega) (by omega) (by omega) (by omega) (by omega)
    have pp : 2 ^ (2 * w) = 2 ^ w * 2 ^ w := by rw [← Nat.pow_add, show 2 * w = w + w by omega]
    have ig := inv_gap (P := 2 ^ w) (a := A) (by omega) g3
    have ePi : Enc w A (A + 1 + 1) W0 := ⟨g1, Rat.le_trans g2 (nat_le_rat (Nat.le_succ (A + 1)))⟩
    have ei := (enc_inv (show 0 < A by omega) ePi).1
    rw [pp] at iv ei
    rw [show A + 2 = A + 1 + 1 from rfl] at ig
    obtain ⟨t1, t2, t3⟩ := gap_mul (T := 2097152) (g := 8589934592) (by omega) (show U1 ≤ U2 by omega) gap top ig
    obtain ⟨li1, li2⟩ := okS_len ig (by omega) (show w ≤ 900 by omega) (by omega)
    have mu2 := fix_Mul (a := U1) (b := U2) (c := 2 ^ w * 2 ^ w / (A + 1 + 1)) (d := 2 ^ w * 2 ^ w / A + 1) (w := w) (by omega) (by omega) (by omega) (by omega) (by omega) (by omega)
    have ef := fun sx sy (u1 : p1 ≤ sx) (u2 : sx ≤ p2') (v1 : q1 ≤ sy) (v2 : sy ≤ q2) => enc_mul (et sx sy u1 u2 v1 v2) ei
    have be' : Go.Ev.Fn CX 243 [.int .i64 (a : Int), .int .i64 (b : Int)] (.tup [rv be2, .int .i64 1, .bool true]) := by
      rw [hpi] at be
      exact be
    refine ⟨U1 * (2 ^ w * 2 ^ w / (A + 1 + 1)) / 2 ^ w, U2 * (2 ^ w * 2 ^ w / A + 1) / 2 ^ w + 1, p1, p2', q1, q2, ?_, t1, by omega, by omega, a1, a0, a2, a3, b1, b0, b2, b3, ?_⟩
    · clear ex ey em et be ef ei ePi g1 g2 t1 t2 t3 ig
      generalize U1 * (2 ^ w * 2 ^ w / (A + 1 + 1)) / 2 ^ w = W1 at *
      generalize U2 * (2 ^ w * 2 ^ w / A + 1) / 2 ^ w + 1 = W2 at *
      generalize 2 ^ w * 2 ^ w / (A + 1 + 1) = I1 at *
      generalize 2 ^ w * 2 ^ w / A + 1 = I2 at *
      generalize mkRat (A : Int) (2 ^ w) = r1 at *
      generalize mkRat ((A + 1 : Nat) : Int) (2 ^ w) = r2 at *
      generalize 1 - x = y at *
      refine Go.Ev.Fn.intro (fn := Tryz.f233) (body := (Tryz.f233).body.get!) (by kernel_rfl) (by kernel_rfl) (by kernel_rfl) (fun _ => rfl) (Nat.le_of_ble_eq_true (by kernel_rfl)) ?_; unfold Tryz.f233; simp only [Option.get!_some]
      repeat (first | (simp only [go_sem, Nat.reduceEqDiff, Nat.reduceAdd, Nat.reduceSub, Nat.reduceMul, Nat.reduceLeDiff, Nat.reduceLT, reduceIte, reduceCtorEq, Nat.succ_ne_zero, elemsC, Int.reduceToNat, Nat.reducePow]) | (simp (disch := (first | omega | (simp only [AL, List.length_map]; omega))) only [AR, AL, ifT, ifF, take_all, List.length_cons, List.length_nil, Int.reduceToNat, Int.reducePow, Nat.reducePow]) | (refine wk_intro (by kernel_rfl) ?_) | (refine vp_draw (id := 1) (l := []) (by kernel_rfl) ?_) | (refine vp_draw (id := 3) (l := [34, 35, 38, 41, 36, 42]) (by kernel_rfl) ?_) | (refine vp_draw (id := 5) (l := []) (by kernel_rfl) ?_) | (refine vf_of (by first | exact f1 | exact i1 | exact sb | exact f2 | exact mu | exact be' | exact o2 | exact m1 | exact oa | exact m2 | exact ti | exact fp | exact bl | exact iv | exact mu2) ?_))
    · intro sx sy v1 v2 v3 v4
      rw [if_pos hpi]
      exact ef sx sy v1 v2 v3 v4
  · have be' : Go.Ev.Fn CX 243 [.int .i64 (a : Int), .int .i64 (b : Int)] (.tup [rv be2, .int .i64 0, .bool true]) := by
      have : a % 2 * (b % 2) = 0 := by
        have x1 : a % 2 ≤ 1 := by omega
        have x2 : b % 2 ≤ 1 := by omega
        have := Nat.mul_le_mul x1 x2
        omega
      rw [this] at be
      exact be
    refine ⟨U1, U2, p1, p2', q1, q2, ?_, by omega, by omega, by omega, a1, a0, a2, a3, b1, b0, b2, b3, ?_⟩
    · clear ex ey em et be
      generalize 1 - x = y at *
      refine Go.Ev.Fn.intro (fn := Tryz.f233) (body := (Tryz.f233).body.get!) (by kernel_rfl) (by kernel_rfl) (by kernel_rfl) (fun _ => rfl) (Nat.le_of_ble_eq_true (by kernel_rfl)) ?_; unfold Tryz.f233; simp only [Option.get!_some]
      repeat (first | (simp only [go_sem, Nat.reduceEqDiff, Nat.reduceAdd, Nat.reduceSub, Nat.reduceMul, Nat.reduceLeDiff, Nat.reduceLT, reduceIte, reduceCtorEq, Nat.succ_ne_zero, elemsC, Int.reduceToNat, Nat.reducePow]) | (simp (disch := (first | omega | (simp only [AL, List.length_map]; omega))) only [AR, AL, ifT, ifF, take_all, List.length_cons, List.length_nil, Int.reduceToNat, Int.reducePow, Nat.reducePow]) | (refine wk_intro (by kernel_rfl) ?_) | (refine vp_draw (id := 1) (l := []) (by kernel_rfl) ?_) | (refine vp_draw (id := 3) (l := [34, 35, 38, 41, 36, 42]) (by kernel_rfl) ?_) | (refine vp_draw (id := 5) (l := []) (by kernel_rfl) ?_) | (refine vf_of (by first | exact f1 | exact i1 | exact sb | exact f2 | exact mu | exact be' | exact o2 | exact m1 | exact oa | exact m2 | exact ti) ?_))
    · intro sx sy v1 v2 v3 v4
      rw [if_neg hpi, Rat.mul_one]
      exact et sx sy v1 v2 v3 v4
end Go.Proofs.YtecjelnpmcnbaaaGreat
namespace Go.Proofs.YtecjelnpmcnbaaaGreat
open Go.Ev
section
variable {x : Rat} {a b w F1 F2 : Nat}
theorem half_units (h0 : 0 ≤ x) (h1 : x + x ≤ 1) : 2 * unN x w ≤ 2 ^ w := by
  have h2 : 2 * x.num.natAbs ≤ x.den := by
    have := num_den x
    have d0 : (0 : Rat) < (x.den : Rat) := by exact_mod_cast x.den_pos
    have h3 := Rat.mul_le_mul_of_nonneg_right h1 (show (0 : Rat) ≤ (x.den : Rat) by grind)
    have h4 : (x.num : Rat) + (x.num : Rat) ≤ (x.den : Rat) := by grind
    have h5 : ((x.num + x.num : Int) : Rat) ≤ (((x.den : Nat) : Int) : Rat) := by rw [Rat.intCast_add]; exact h4
    have h6 := Rat.intCast_le_intCast.1 h5
    have h7 := Rat.num_nonneg.2 h0
    omega
  have h3 := Nat.div_mul_le_self (x.num.natAbs * 2 ^ w) x.den
  have h4 := Nat.mul_le_mul_right (2 ^ w) h2
  have h5 : 2 * unN x w * x.den ≤ 2 ^ w * x.den := by
    have e1 : 2 * unN x w * x.den = 2 * (x.num.natAbs * 2 ^ w / x.den * x.den) := by rw [Nat.mul_assoc]
    have e2 : 2 * x.num.natAbs * 2 ^ w = 2 * (x.num.natAbs * 2 ^ w) := by rw [Nat.mul_assoc]
    rw [Nat.mul_comm (2 ^ w)]
    omega
  exact Nat.le_of_mul_le_mul_right h5 x.den_pos
theorem fst_ok (h1 : F1 ≤ F2) (h2 : F2 ≤ F1 + 2 ^ 45) (h3 : F2 ≤ 2 ^ (w + 25)) : okK w b (2 ^ (w + 25)) (2 ^ 69) 0 F1 F2 F1 F2 := by
  unfold okK
  rw [Nat.zero_min, Nat.pow_zero, Nat.one_mul, Nat.one_mul]
  refine ⟨?_, ?_, ?_, ?_, ?_, ?_⟩ <;> omega
theorem rowC_le (hb2 : b ≤ 20) : 4 ^ b * 2 ^ (w + 25) ≤ 2 ^ 65 * 2 ^ w ∧ 4 ^ b * 2 ^ 69 ≤ 2 ^ 109 := by
  have h40 : 4 ^ b ≤ 4 ^ 20 := Nat.pow_le_pow_right (by omega) hb2
  have hp : 2 ^ (w + 25) = 2 ^ 25 * 2 ^ w := by rw [Nat.pow_add, Nat.mul_comm]
  constructor
  · rw [hp, ← Nat.mul_assoc]
    exact Nat.mul_le_mul_right _ (Nat.le_trans (Nat.mul_le_mul_right _ h40) (by decide))
  · exact Nat.le_trans (Nat.mul_le_mul_right _ h40) (by decide)
theorem rowh_ends (ha : 1 ≤ a) (hb2 : b ≤ 20) (h0 : 0 ≤ x) (h1 : x + x ≤ 1) (hw0 : 60 ≤ w) (hw : w ≤ 540) (g1 : F1 ≤ F2) (g2 : F2 ≤ F1 + 2 ^ 45) (g3 : F2 ≤ 2 ^ (w + 25)) : ∃ A B K, rowGo w (unN x w) (unN x w + 1) a b 2201 0 F1 F2 F1 F2 = some (A, B, K) := by
  have hP : 2 ^ 60 ≤ 2 ^ w := Nat.pow_le_pow_right (n := 2) (by omega) hw0
  have hy := half_units (w := w) h0 h1
  have ok := fst_ok (b := b) g1 g2 g3
  unfold okK at ok
  rw [Nat.zero_min, Nat.pow_zero, Nat.one_mul, Nat.one_mul] at ok
  have hC := (rowC_le (w := w) hb2).1
  have hp : 2 ^ (w + 25) = 2 ^ w * 33554432 := by rw [Nat.pow_add]
  have hF : 4 ^ 2000 * (4 ^ b * 2 ^ (w + 25)) < 8 * 5 ^ 2000 := by
    obtain ⟨E, hE⟩ : ∃ E : Nat, E = 620 := ⟨_, rfl⟩
    have h49 : 2 ^ 65 * 2 ^ w ≤ 2 ^ E := by rw [← Nat.pow_add]; exact Nat.pow_le_pow_right (by omega) (by omega)
    obtain ⟨N4, hN4⟩ : ∃ N, N = 4 ^ 2000 := ⟨_, rfl⟩
    obtain ⟨N5, hN5⟩ : ∃ N, N = 5 ^ 2000 := ⟨_, rfl⟩
    rw [← hN4, ← hN5]
    have hk : N4 * 2 ^ E < 8 * N5 := by rw [hN4, hN5, hE]; decide +kernel
    exact Nat.lt_of_le_of_lt (Nat.mul_le_mul_left _ (Nat.le_trans hC h49)) hk
  exact row_early (a := a) (b := b) (F := 2000) (C := 2 ^ 65) (by omega) rfl hy ha hb2 b 0 _ _ _ _ _ _ (by omega) (by omega) hC (by decide) hF ok
theorem rowh_bd {A B K : Nat} (ha : 1 ≤ a) (hb2 : b ≤ 20) (h0 : 0 ≤ x) (h1 : x + x ≤ 1) (hw0 : 60 ≤ w) (g1 : F1 ≤ F2) (g2 : F2 ≤ F1 + 2 ^ 45) (g3 : F2 ≤ 2 ^ (w + 25))
    (hg : rowGo w (unN x w) (unN x w + 1) a b 2201 0 F1 F2 F1 F2 = some (A, B, K)) : A ≤ B ∧ B ≤ A + 2 ^ 121 ∧ B ≤ 2 ^ (w + 77) := by
  have hP : 2 ^ 60 ≤ 2 ^ w := Nat.pow_le_pow_right (n := 2) (by omega) hw0
  have hp : 2 ^ (w + 25) = 2 ^ w * 33554432 := by rw [Nat.pow_add]
  obtain ⟨hC, hD⟩ := rowC_le (w := w) hb2
  obtain ⟨i1, i2, i3, i4⟩ := row_inv (a := a) (b := b) (C := 2 ^ 65) (by omega) rfl (half_units (w := w) h0 h1) ha hb2 (by omega) hC (by decide) 2201 0 _ _ _ _ hg (fst_ok g1 g2 g3)
  have b1 : (K + 1) * (4 ^ b * 2 ^ 69) ≤ 2201 * 2 ^ 109 := Nat.mul_le_mul (by omega) hD
  have b2 : (K + 1) * (4 ^ b * 2 ^ (w + 25)) ≤ 2201 * (2 ^ 65 * 2 ^ w) := Nat.mul_le_mul (by omega) hC
  have b3 : 2 ^ (w + 77) = 4096 * (2 ^ 65 * 2 ^ w) := by rw [show w + 77 = 12 + (65 + w) by omega, Nat.pow_add 2 12, Nat.pow_add 2 65]
  have b4 : 64 ≤ 2 ^ 65 * 2 ^ w := Nat.le_trans (by decide) (Nat.le_mul_of_pos_right (2 ^ 65) (by omega))
  omega
set_option maxHeartbeats 1000000 in
theorem incb_rowh {L A' B' K : Nat} (ha : 1 ≤ a) (ha2 : a ≤ 20) (hb : 1 ≤ b) (hb2 : b ≤ 20) (hz : szR x L) (hL : L ≤ 300) (h0 : 0 ≤ x) (h1 : x + x ≤ 1) (hw0 : 60 ≤ w) (hw : w ≤ 540)
    (fi : Go.Ev.Fn CX 233 [.int .i64 (a : Int), .int .i64 (b : Int), rv x, .int .i64 (w : Int)] (spanV F1 F2)) (g1 : F1 ≤ F2) (g2 : F2 ≤ F1 + 2 ^ 45) (g3 : F2 ≤ 2 ^ (w + 25))
    (hg : rowGo w (unN x w) (unN x w + 1) a b 2201 0 F1 F2 F1 F2 = some (A', B', K)) :
    Go.Ev.Fn CX 202 [.int .i64 (a : Int), .int .i64 (b : Int), rv x, .int .i64 (w : Int)] (spanV A' B') := by
  have hP : 2 ^ 60 ≤ 2 ^ w := Nat.pow_le_pow_right (n := 2) (by omega) hw0
  have hp25 : 2 ^ (w + 25) = 2 ^ w * 33554432 := by rw [Nat.pow_add]
  have hy := half_units (w := w) h0 h1
  have r : Go.Ev.Fn CX 228 [rv x, .int .i64 (w : Int)] (spanV (unN x w) (unN x w + 1)) := fix_Rat hz (by omega) (w := w) (by omega)
  obtain ⟨ly1, ly2⟩ := unN_len1 h0 (show x ≤ 1 by clear r hy; grind) (show w ≤ 900 by omega)
  have ok := fst_ok (b := b) g1 g2 g3
  have hC := (rowC_le (w := w) hb2).1
  have e65 : 2 ^ (w + 65) = 2 ^ 65 * 2 ^ w := by rw [Nat.pow_add, Nat.mul_comm]
  have step := fun (k t1 t2 a1 a2 : Nat) (h : okK w b (2 ^ (w + 25)) (2 ^ 69) k t1 t2 a1 a2) => okK_step (a := a) (y1 := unN x w) (y2 := unN x w + 1) (C := 2 ^ 65) (by omega) rfl hy ha hb2 (by omega) hC (by decide) h
  have lens := fun (k t1 t2 a1 a2 : Nat) (hk : k ≤ 2201) (h : okK w b (2 ^ (w + 25)) (2 ^ 69) k t1 t2 a1 a2) => (show (lim t1).length ≤ 40 ∧ (lim t2).length ≤ 40 ∧ (lim a1).length ≤ 40 ∧ (lim a2).length ≤ 40 from by
    obtain ⟨q1, q2, q3, q4, q5, q6⟩ := h
    have f := (four_le (k := k) (b := b) (T := 2 ^ (w + 25))).2
    have b1 : (k + 1) * (4 ^ min k b * 2 ^ (w + 25)) ≤ 4096 * 2 ^ (w + 65) := Nat.mul_le_mul (by omega) (Nat.le_trans f (by rw [e65]; exact hC))
    have b2 : 4096 * 2 ^ (w + 65) = 2 ^ (w + 77) := by rw [show w + 77 = 12 + (w + 65) by omega, Nat.pow_add 2 12]
    have b3 : 2 ^ (w + 65) ≤ 2 ^ (w + 77) := Nat.pow_le_pow_right (by omega) (by omega)
    have b5 : 4 ^ min k b * 2 ^ (w + 25) ≤ 2 ^ (w + 65) := Nat.le_trans f (by rw [e65]; exact hC)
    exact ⟨lim_len_p2 (w := w + 77) (by omega) (by omega), lim_len_p2 (w := w + 77) (by omega) (by omega), lim_len_p2 (w := w + 77) (by omega) (by omega), lim_len_p2 (w := w + 77) (by omega) (by omega)⟩)
  generalize unN x w = y1 at *
  clear hz h0 h1
  refine Go.Ev.Fn.intro (fn := Tryz.f202) (body := (Tryz.f202).body.get!) (by kernel_rfl) (by kernel_rfl) (by kernel_rfl) (fun _ => rfl) (Nat.le_of_ble_eq_true (by kernel_rfl)) ?_; unfold Tryz.f202; simp only [Option.get!_some]
  repeat (first | (simp only [go_sem, Nat.reduceEqDiff, Nat.reduceAdd, Nat.reduceSub, Nat.reduceMul, Nat.reduceLeDiff, Nat.reduceLT, reduceIte, reduceCtorEq, Nat.succ_ne_zero, elemsC, Int.reduceToNat, Nat.reducePow]) | (simp (disch := (first | omega | (simp only [AL, List.length_map]; omega))) only [AR, AL, ifT, ifF, take_all, List.length_cons, List.length_nil, Int.reduceToNat, Int.reducePow, Nat.reducePow]) | (refine wk_intro (by kernel_rfl) ?_) | (refine vf_of (by first | exact r | exact fi) ?_))
  refine vp_loop_inv (fun s => s.tmp 0 = .sv (.int .i64 (a : Int)) ∧ s.tmp 1 = .sv (.int .i64 (b : Int)) ∧ s.tmp 3 = .sv (.int .i64 (w : Int)) ∧ s.tmp 8 = .ptr 8 0 0 ∧ s.obj 8 0 = some [.sl 0 [], .sl 0 []] ∧ s.tmp 9 = .ptr 9 0 0 ∧ s.obj 9 0 = some [natV (lim y1), natV (lim (y1 + 1))] ∧ s.tmp 10 = .ptr 10 0 0 ∧ s.tmp 11 = .ptr 11 0 0 ∧
      ∃ f k t1 t2 a1 a2 : Nat, s.tmp 12 = .sv (.int .i64 (k : Int)) ∧ f + k = 2201 ∧ rowGo w y1 (y1 + 1) a b f k t1 t2 a1 a2 = some (A', B', K) ∧ s.obj 10 0 = some [natV (lim t1), natV (lim t2)] ∧ s.obj 11 0 = some [natV (lim a1), natV (lim a2)] ∧
        okK w b (2 ^ (w + 25)) (2 ^ 69) k t1 t2 a1 a2)
    (fun s => match s.tmp 12 with | .sv (.int _ i) => 2202 - i.toNat | _ => 0) ⟨rfl, rfl, rfl, rfl, rfl, rfl, rfl, rfl, rfl, 2201, 0, F1, F2, F1, F2, rfl, rfl, hg, rfl, rfl, ok⟩ ?_
  rintro s ⟨i0, i1, i3, i8, o8, i9, o9, i10, i11, f, k, t1, t2, a1, a2, i12, hfk, hgo, o10, o11, hok⟩
  obtain ⟨lt1, lt2, la1, la2⟩ := lens k t1 t2 a1 a2 (by omega) hok
  have st := step k t1 t2 a1 a2 hok
  have sm := fix_Small (a := t1) (b := t2) (by omega) (k := 3) (by omega)
  clear hP hp25 e65 hC g1 g2 g3
  cases f with
  | zero => simp only [rowGo] at hgo; cases hgo
  | succ f =>
    rw [rowGo] at hgo
    by_cases hs : b ≤ k ∧ t2 < 8
    · rw [if_pos hs] at hgo
      simp only [Option.some.injEq, Prod.mk.injEq] at hgo
      obtain ⟨rfl, rfl, rfl⟩ := hgo
      rw [decide_eq_true (show t2 < 2 ^ 3 from hs.2)] at sm
      have hs1 := hs.1
      have wd := fix_Wider (a := a1) (b := a2) (n := 64) (by omega) (by omega) (by omega)
      clear step lens st hs hg
      repeat (first | (simp only [go_sem, Nat.reduceEqDiff, Nat.reduceAdd, Nat.reduceSub, Nat.reduceMul, Nat.reduceLeDiff, Nat.reduceLT, reduceIte, reduceCtorEq, Nat.succ_ne_zero, elemsC, Int.reduceToNat, Nat.reducePow, i0, i1, i3, i8, o8, i9, o9, i10, i11, i12, o10, o11, Bool.not_true]) | (simp (disch := (first | omega | (simp only [AL, List.length_map]; omega))) only [AR, AL, ifT, ifF, take_all, List.length_cons, List.length_nil, Int.reduceToNat, Int.reducePow, Nat.reducePow, i0, i1, i3, i8, o8, i9, o9, i10, i11, i12, o10, o11, Bool.not_true]) | (refine wk_intro (by kernel_rfl) ?_) | (refine vf_of (by first | exact sm | exact wd) ?_))
    · rw [if_neg hs] at hgo
      obtain ⟨lu1, lu2, lb1, lb2⟩ := lens (k + 1) _ _ _ _ (by omega) st
      have mu := fix_Mul (a := t1) (b := t2) (c := y1) (d := y1 + 1) (w := w) (by omega) (by omega) (by omega) (by omega) (by omega) (by omega)
      have q1 := nat_Of (a + b + 2 * k) (by omega)
      have q2 := nat_Of (a + 2 + 2 * k) (by omega)
      have lq1 : (lim (a + b + 2 * k)).length ≤ 1 := lim_len_one (by omega)
      have lq2 : (lim (a + 2 + 2 * k)).length ≤ 1 := lim_len_one (by omega)
      have z1 := lim_len_mul (a := t1) (b := y1)
      have z2 := lim_len_mul (a := t2) (b := y1 + 1)
      have z3 := lim_len_mono (Nat.div_le_self (t1 * y1) (2 ^ w))
      have l1 := lim_len1
      have z4 := lim_len_add (a := t2 * (y1 + 1) / 2 ^ w) (b := 1) (L := 200) (Nat.le_trans (lim_len_mono (Nat.div_le_self (t2 * (y1 + 1)) (2 ^ w))) (by omega)) (by omega)
      have ti := fix_Times (a := t1 * y1 / 2 ^ w) (b := t2 * (y1 + 1) / 2 ^ w + 1) (n := a + b + 2 * k) (d := a + 2 + 2 * k) (by omega) (by omega) (by omega) (by omega) (by omega)
      rw [show ((a + b + 2 * k : Nat) : Int) = (a : Int) + (b : Int) + 2 * (k : Int) by omega] at q1
      rw [show ((a + 2 + 2 * k : Nat) : Int) = (a : Int) + 2 + 2 * (k : Int) by omega] at q2
      generalize t1 * y1 / 2 ^ w * (a + b + 2 * k) / (a + 2 + 2 * k) = u1 at *
      generalize (t2 * (y1 + 1) / 2 ^ w + 1) * (a + b + 2 * k) / (a + 2 + 2 * k) + 1 = u2 at *
      generalize t1 * y1 / 2 ^ w = v1 at *
      generalize t2 * (y1 + 1) / 2 ^ w + 1 = v2 at *
      have ad := fix_Add (a := a1) (b := a2) (c := u1) (d := u2) (by omega) (by omega) (by omega) (by omega)
      clear step lens hg
      by_cases hk : b ≤ k
      · rw [decide_eq_false (show ¬ t2 < 2 ^ 3 from fun h => hs ⟨hk, h⟩)] at sm
        repeat (first | (simp only [go_sem, Nat.reduceEqDiff, Nat.reduceAdd, Nat.reduceSub, Nat.reduceMul, Nat.reduceLeDiff, Nat.reduceLT, reduceIte, reduceCtorEq, Nat.succ_ne_zero, elemsC, Int.reduceToNat, Nat.reducePow, i0, i1, i3, i8, o8, i9, o9, i10, i11, i12, o10, o11, Bool.not_false]) | (simp (disch := (first | omega | (simp only [AL, List.length_map]; omega))) only [AR, AL, ifT, ifF, take_all, List.length_cons, List.length_nil, Int.reduceToNat, Int.reducePow, Nat.reducePow, i0, i1, i3, i8, o8, i9, o9, i10, i11, i12, o10, o11, Bool.not_false]) | (refine wk_intro (by kernel_rfl) ?_) | (refine vf_of (by first | exact sm | exact mu | exact q1 | exact q2 | exact ti | exact ad) ?_))
        exact ⟨⟨f, k + 1, u1, u2, a1 + u1, a2 + u2, rfl, by omega, hgo, rfl, rfl, st⟩, by omega⟩
      · repeat (first | (simp only [go_sem, Nat.reduceEqDiff, Nat.reduceAdd, Nat.reduceSub, Nat.reduceMul, Nat.reduceLeDiff, Nat.reduceLT, reduceIte, reduceCtorEq, Nat.succ_ne_zero, elemsC, Int.reduceToNat, Nat.reducePow, i0, i1, i3, i8, o8, i9, o9, i10, i11, i12, o10, o11]) | (simp (disch := (first | omega | (simp only [AL, List.length_map]; omega))) only [AR, AL, ifT, ifF, take_all, List.length_cons, List.length_nil, Int.reduceToNat, Int.reducePow, Nat.reducePow, i0, i1, i3, i8, o8, i9, o9, i10, i11, i12, o10, o11]) | (refine wk_intro (by kernel_rfl) ?_))
        repeat (first | (simp only [go_sem, Nat.reduceEqDiff, Nat.reduceAdd, Nat.reduceSub, Nat.reduceMul, Nat.reduceLeDiff, Nat.reduceLT, reduceIte, reduceCtorEq, Nat.succ_ne_zero, elemsC, Int.reduceToNat, Nat.reducePow, i0, i1, i3, i8, o8, i9, o9, i10, i11, i12, o10, o11]) | (simp (disch := (first | omega | (simp only [AL, List.length_map]; omega))) only [AR, AL, ifT, ifF, take_all, List.length_cons, List.length_nil, Int.reduceToNat, Int.reducePow, Nat.reducePow, i0, i1, i3, i8, o8, i9, o9, i10, i11, i12, o10, o11]) | (refine wk_intro (by kernel_rfl) ?_) | (refine vf_of (by first | exact mu | exact q1 | exact q2 | exact ti | exact ad) ?_))
        exact ⟨⟨f, k + 1, u1, u2, a1 + u1, a2 + u2, rfl, by omega, hgo, rfl, rfl, st⟩, by omega⟩
end
end Go.Proofs.YtecjelnpmcnbaaaGreat
namespace Go.Proofs.YtecjelnpmcnbaaaGreat
open Go.Ev
theorem num_den' (q : Rat) : q * (q.den : Rat) = (q.num : Rat) := by
  have h : mkRat q.num q.den * (q.den : Rat) = (q.num : Rat) := by
    rw [Rat.mkRat_eq_div]
    refine Rat.div_mul_cancel ?_
    have : (0 : Rat) < (q.den : Rat) := by exact_mod_cast q.den_pos
    grind
  rwa [Rat.mkRat_self] at h
section
variable {x : Rat} {A B w : Nat}
end
end Go.Proofs.YtecjelnpmcnbaaaGreat
namespace Go.Proofs.YtecjelnpmcnbaaaGreat
open Go.Ev
section
variable {x y : Rat}
end
section
variable {x : Rat} {A B w : Nat}
theorem un_enc {q : Rat} (h0 : 0 ≤ q) (w : Nat) : Enc w (unN q w) (unN q w + 1) q := by
  have D : (0 : Rat) < (q.den : Rat) := by exact_mod_cast q.den_pos
  have f := floor_le (a := q.num.natAbs * 2 ^ w) (d := q.den)
  have g := le_floor (a := q.num.natAbs * 2 ^ w) (d := q.den) q.den_pos
  have e : ((q.num.natAbs * 2 ^ w : Nat) : Rat) = q * p2 w * (q.den : Rat) := by
    rw [cm]
    have h := num_den' q
    have h2 : ((q.num.natAbs : Nat) : Rat) = (q.num : Rat) := by
      have : (q.num.natAbs : Int) = q.num := Int.natAbs_of_nonneg (Rat.num_nonneg.2 h0)
      rw [← this]; rfl
    rw [h2, ← h]
    show q * (q.den : Rat) * p2 w = _
    grind
  rw [e] at f g
  exact ⟨le_by D f, le_by D g⟩
end
end Go.Proofs.YtecjelnpmcnbaaaGreat
namespace Go.Proofs.YtecjelnpmcnbaaaGreat
open Go.Ev
theorem slices_Equal (a b : List Nat) (ha : a.length ≤ 274877906944) (hb : b.length ≤ 274877906944) : Go.Ev.Fn CX 232 [natV a, natV b] (.bool (decide (a = b))) := by
  refine Go.Ev.Fn.intro (fn := Tryz.f232) (body := (Tryz.f232).body.get!) (by kernel_rfl) (by kernel_rfl) (by kernel_rfl) (fun _ => rfl) (Nat.le_of_ble_eq_true (by kernel_rfl)) ?_; unfold Tryz.f232; simp only [Option.get!_some]
  by_cases hl : a.length = b.length
  · repeat (first | (simp only [go_sem, Nat.reduceEqDiff, Nat.reduceAdd, Nat.reduceSub, Nat.reduceMul, Nat.reduceLeDiff, Nat.reduceLT, reduceIte, reduceCtorEq, Nat.succ_ne_zero, elemsC, Int.reduceToNat, Nat.reducePow]) | (simp (disch := (first | omega | (simp only [AL, List.length_map]; omega))) only [AR, AL, ifT, ifF, take_all, List.length_cons, List.length_nil, Int.reduceToNat, Int.reducePow, Nat.reducePow]) | (refine wk_intro (by kernel_rfl) ?_) | (refine vp_draw (id := 6) (l := []) (by kernel_rfl) ?_))
    refine vp_loop_inv (fun s => s.tmp 0 = .sv (natV a) ∧ s.tmp 1 = .sv (natV b) ∧ s.tmp 12 = .sv (.int .i64 (a.length : Int)) ∧ ∃ i : Nat, s.tmp 13 = .sv (.int .i64 i) ∧ i ≤ a.length ∧ a.take i = b.take i) (fun s => match s.tmp 13 with | .sv (.int _ i) => a.length - i.toNat | _ => 0) ⟨rfl, rfl, rfl, 0, rfl, by omega, rfl⟩ ?_
    rintro s ⟨i0, i1, i12, i, i13, hi, ht⟩
    by_cases hend : i = a.length
    · subst hend
      rw [List.take_length, hl, List.take_length] at ht
      rw [decide_eq_true ht]
      repeat (first | (simp only [go_sem, Nat.reduceEqDiff, Nat.reduceAdd, Nat.reduceSub, Nat.reduceMul, Nat.reduceLeDiff, Nat.reduceLT, reduceIte, reduceCtorEq, Nat.succ_ne_zero, elemsC, Int.reduceToNat, Nat.reducePow, i0, i1, i12, i13]) | (simp (disch := (first | omega | (simp only [AL, List.length_map]; omega))) only [AR, AL, ifT, ifF, take_all, List.length_cons, List.length_nil, Int.reduceToNat, Int.reducePow, Nat.reducePow, i0, i1, i12, i13]) | (refine wk_intro (by kernel_rfl) ?_) | (refine vp_draw (id := 6) (l := []) (by kernel_rfl) ?_))
    · have e : ∀ c : List Nat, i < c.length → c.take (i + 1) = c.take i ++ [c.getD i 0] := by
        intro c hc
        rw [List.take_add_one, List.getD_eq_getElem?_getD, List.getElem?_eq_getElem hc]
        rfl
      by_cases hx : a.getD i 0 = b.getD i 0
      · repeat (first | (simp only [go_sem, Nat.reduceEqDiff, Nat.reduceAdd, Nat.reduceSub, Nat.reduceMul, Nat.reduceLeDiff, Nat.reduceLT, reduceIte, reduceCtorEq, Nat.succ_ne_zero, elemsC, Int.reduceToNat, Nat.reducePow, i0, i1, i12, i13]) | (simp (disch := (first | omega | (simp only [AL, List.length_map]; omega))) only [AR, AL, ifT, ifF, take_all, List.length_cons, List.length_nil, Int.reduceToNat, Int.reducePow, Nat.reducePow, i0, i1, i12, i13]) | (refine wk_intro (by kernel_rfl) ?_) | (refine vp_draw (id := 6) (l := []) (by kernel_rfl) ?_))
        exact ⟨⟨i + 1, rfl, by omega, by rw [e a (by omega), e b (by omega), ht, hx]⟩, by omega⟩
      · rw [decide_eq_false (fun h => hx (by rw [h]))]
        repeat (first | (simp only [go_sem, Nat.reduceEqDiff, Nat.reduceAdd, Nat.reduceSub, Nat.reduceMul, Nat.reduceLeDiff, Nat.reduceLT, reduceIte, reduceCtorEq, Nat.succ_ne_zero, elemsC, Int.reduceToNat, Nat.reducePow, i0, i1, i12, i13]) | (simp (disch := (first | omega | (simp only [AL, List.length_map]; omega))) only [AR, AL, ifT, ifF, take_all, List.length_cons, List.length_nil, Int.reduceToNat, Int.reducePow, Nat.reducePow, i0, i1, i12, i13]) | (refine wk_intro (by kernel_rfl) ?_) | (refine vp_draw (id := 6) (l := []) (by kernel_rfl) ?_))
  · rw [decide_eq_false (fun h => hl (by rw [h]))]
    repeat (first | (simp only [go_sem, Nat.reduceEqDiff, Nat.reduceAdd, Nat.reduceSub, Nat.reduceMul, Nat.reduceLeDiff, Nat.reduceLT, reduceIte, reduceCtorEq, Nat.succ_ne_zero, elemsC, Int.reduceToNat, Nat.reducePow]) | (simp (disch := (first | omega | (simp only [AL, List.length_map]; omega))) only [AR, AL, ifT, ifF, take_all, List.length_cons, List.length_nil, Int.reduceToNat, Int.reducePow, Nat.reducePow]) | (refine wk_intro (by kernel_rfl) ?_) | (refine vp_draw (id := 6) (l := []) (by kernel_rfl) ?_))
theorem rat_Same {v w : SV} {q r : Rat} {L M : Nat} (hv : RatA v q L) (hw : RatA w r M) (hL : 1 ≤ L) (hM : 1 ≤ M) (h : L + M ≤ 8388608) : Go.Ev.Fn CX 201 [v, w] (.bool (decide (q = r))) := by
  have hnv := rat_Norm hv (by omega)
  have hnw := rat_Norm hw (by omega)
  obtain ⟨z1, z2⟩ := szR_of hv hL
  obtain ⟨y1, y2⟩ := szR_of hw hM
  have l1 := slices_Equal (lim q.num.natAbs) (lim r.num.natAbs) (by omega) (by omega)
  have l2 := slices_Equal (lim q.den) (lim r.den) (by omega) (by omega)
  have hbb := beq_bool (decide (q.num < 0)) (decide (r.num < 0))
  obtain ⟨s, n, d, rfl, -⟩ := hv
  obtain ⟨s', n', d', rfl, -⟩ := hw
  refine Go.Ev.Fn.intro (fn := Tryz.f201) (body := (Tryz.f201).body.get!) (by kernel_rfl) (by kernel_rfl) (by kernel_rfl) (fun _ => rfl) (Nat.le_of_ble_eq_true (by kernel_rfl)) ?_; unfold Tryz.f201; simp only [Option.get!_some]
  repeat (first | (simp only [go_sem, Nat.reduceEqDiff, Nat.reduceAdd, Nat.reduceSub, Nat.reduceMul, Nat.reduceLeDiff, Nat.reduceLT, reduceIte, reduceCtorEq, Nat.succ_ne_zero, elemsC, Int.reduceToNat, Nat.reducePow, hbb]) | (simp (disch := (first | omega | (simp only [AL, List.length_map]; omega))) only [AR, AL, ifT, ifF, take_all, List.length_cons, List.length_nil, Int.reduceToNat, Int.reducePow, Nat.reducePow, hbb]) | (refine wk_intro (by kernel_rfl) ?_) | (refine vp_draw (id := 1) (l := []) (by kernel_rfl) ?_) | (refine vf_of (by first | exact hnv | exact hnw) ?_))
  by_cases h1 : decide (q.num < 0) = decide (r.num < 0)
  · rw [decide_eq_true h1]
    by_cases h2 : lim q.num.natAbs = lim r.num.natAbs
    · rw [decide_eq_true h2] at l1
      repeat (first | (simp only [go_sem, Nat.reduceEqDiff, Nat.reduceAdd, Nat.reduceSub, Nat.reduceMul, Nat.reduceLeDiff, Nat.reduceLT, reduceIte, reduceCtorEq, Nat.succ_ne_zero, elemsC, Int.reduceToNat, Nat.reducePow]) | (simp (disch := (first | omega | (simp only [AL, List.length_map]; omega))) only [AR, AL, ifT, ifF, take_all, List.length_cons, List.length_nil, Int.reduceToNat, Int.reducePow, Nat.reducePow]) | (refine wk_intro (by kernel_rfl) ?_) | (refine vp_draw (id := 1) (l := []) (by kernel_rfl) ?_))
      have e : decide (lim q.den = lim r.den) = decide (q = r) := by
        by_cases h3 : lim q.den = lim r.den
        · rw [decide_eq_true h3, decide_eq_true (rv_eq h1 h2 h3)]
        · rw [decide_eq_false h3, decide_eq_false (fun e => h3 (by rw [e]))]
      rw [e] at l2
      repeat (first | (simp only [go_sem, Nat.reduceEqDiff, Nat.reduceAdd, Nat.reduceSub, Nat.reduceMul, Nat.reduceLeDiff, Nat.reduceLT, reduceIte, reduceCtorEq, Nat.succ_ne_zero, elemsC, Int.reduceToNat, Nat.reducePow]) | (simp (disch := (first | omega | (simp only [AL, List.length_map]; omega))) only [AR, AL, ifT, ifF, take_all, List.length_cons, List.length_nil, Int.reduceToNat, Int.reducePow, Nat.reducePow]) | (refine wk_intro (by kernel_rfl) ?_) | (refine vp_draw (id := 1) (l := []) (by kernel_rfl) ?_) | (refine vf_of (by first | exact l1 | exact l2) ?_))
    · rw [decide_eq_false h2] at l1
      have hne : q ≠ r := fun e => h2 (by rw [e])
      rw [decide_eq_false hne]
      repeat (first | (simp only [go_sem, Nat.reduceEqDiff, Nat.reduceAdd, Nat.reduceSub, Nat.reduceMul, Nat.reduceLeDiff, Nat.reduceLT, reduceIte, reduceCtorEq, Nat.succ_ne_zero, elemsC, Int.reduceToNat, Nat.reducePow]) | (simp (disch := (first | omega | (simp only [AL, List.length_map]; omega))) only [AR, AL, ifT, ifF, take_all, List.length_cons, List.length_nil, Int.reduceToNat, Int.reducePow, Nat.reducePow]) | (refine wk_intro (by kernel_rfl) ?_) | (refine vp_draw (id := 1) (l := []) (by kernel_rfl) ?_) | (refine vf_of (by first | exact l1) ?_))
  · have hne : q ≠ r := fun e => h1 (by rw [e])
    rw [decide_eq_false h1, decide_eq_false hne]
    repeat (first | (simp only [go_sem, Nat.reduceEqDiff, Nat.reduceAdd, Nat.reduceSub, Nat.reduceMul, Nat.reduceLeDiff, Nat.reduceLT, reduceIte, reduceCtorEq, Nat.succ_ne_zero, elemsC, Int.reduceToNat, Nat.reducePow]) | (simp (disch := (first | omega | (simp only [AL, List.length_map]; omega))) only [AR, AL, ifT, ifF, take_all, List.length_cons, List.length_nil, Int.reduceToNat, Int.reducePow, Nat.reducePow]) | (refine wk_intro (by kernel_rfl) ?_) | (refine vp_draw (id := 1) (l := []) (by kernel_rfl) ?_))
theorem neg_num {x : Rat} : decide (x.num < 0) = decide (x < 0) := by
  have h := Rat.num_nonneg (q := x)
  refine decide_eq_decide.2 ⟨fun g => ?_, fun g => ?_⟩
  · have : ¬ 0 ≤ x := fun k => absurd (h.2 k) (by omega)
    grind
  · rcases Int.lt_or_le x.num 0 with k | k
    · exact k
    · exact absurd (h.1 k) (by grind)
section
variable {v : SV} {x : Rat} {A B p L : Nat}
theorem erv {x : Rat} (h : decide (x.num < 0) = false) : rv x = ratV false (lim x.num.natAbs) (lim x.den) := by show ratV (decide (x.num < 0)) _ _ = _; rw [h]
end
end Go.Proofs.YtecjelnpmcnbaaaGreat
namespace Go.Proofs.YtecjelnpmcnbaaaGreat
open Go.Ev
section
variable {v : SV} {x : Rat} {a b p L : Nat}
abbrev toldLo (A p : Nat) : Rat := mkRat ((A / 2 ^ (p + 300 - (p + 2)) : Nat) : Int) (2 ^ (p + 2))
abbrev toldHi (B p : Nat) : Rat := mkRat ((B / 2 ^ (p + 300 - (p + 2)) + 1 : Nat) : Int) (2 ^ (p + 2))
theorem told_sz {A B : Nat} (hp : p ≤ 200) (hA : (lim A).length ≤ 100) (hB : (lim B).length ≤ 100) : szR (toldLo A p) 101 ∧ szR (toldHi B p) 101 := by
  have l3 := lim_len_mono (Nat.div_le_self A (2 ^ (p + 300 - (p + 2))))
  have l4 := lim_len_mono (Nat.div_le_self B (2 ^ (p + 300 - (p + 2))))
  have l1 := lim_len1
  have l5 := lim_len_add (a := B / 2 ^ (p + 300 - (p + 2))) (b := 1) (L := 100) (by omega) (by omega)
  have lp := lim_len_shl (a := 1) (n := p + 2)
  rw [Nat.one_mul] at lp
  exact ⟨szR_mk (s := false) (n := A / 2 ^ (p + 300 - (p + 2))) (d := 2 ^ (p + 2)) (L := 101) (by omega) (by omega) (by omega), szR_mk (s := false) (n := B / 2 ^ (p + 300 - (p + 2)) + 1) (d := 2 ^ (p + 2)) (L := 101) (by omega) (by omega) (by omega)⟩
set_option maxHeartbeats 1000000 in
theorem incb_I_loP {A' B' : Nat} {pI : Int} (hpI : (pI ≤ 0 ∧ p = 0) ∨ pI = (p : Int)) (hv : RatA v x L) (hL1 : 1 ≤ L) (hL : L ≤ 200) (ha : 1 ≤ a) (ha2 : a ≤ 20) (hb : 1 ≤ b) (hb2 : b ≤ 20) (hp : p ≤ 200) (h0 : 0 < x) (h1 : x + x ≤ 1)
    (rw1 : Go.Ev.Fn CX 202 [.int .i64 (a : Int), .int .i64 (b : Int), rv x, .int .i64 ((p + 300 : Nat) : Int)] (spanV A' B')) (hl : (lim A').length ≤ 100 ∧ (lim B').length ≤ 100) :
    Go.Ev.Fn CX 156 [.int .i64 (a : Int), .int .i64 (b : Int), v, .int .i64 pI] (.tup [ballR (toldLo A' p) (toldHi B' p), .bool true]) := by
  have n1 := rat_Norm hv (by omega)
  have zx := szR_of hv hL1
  have i1 := rat_Int 1 (by omega)
  have c1 := rat_Cmp (RatA_rv zx) (RatA_rv (int_szR (n := 1) (by omega))) hL1 (by omega) (by omega)
  have zr := rat_Zero (RatA_rv zx) hL1 (by omega)
  rw [decide_eq_false (by grind)] at zr
  have sm := rat_Same (RatA_rv zx) (RatA_rv (int_szR (n := 1) (by omega))) hL1 (by omega) (by omega)
  have ad := rat_Add (RatA_rv zx) (RatA_rv zx) hL1 hL1 (by omega)
  have c2 := rat_Cmp (RatA_rv (szR_add zx zx hL1)) (RatA_rv (int_szR (n := 1) (by omega))) (by omega) (by omega) (by omega)
  rw [show ((1 : Int) : Rat) = 1 from rfl] at i1 c1 sm c2
  rw [decide_eq_false (show ¬ x = 1 by grind)] at sm
  have e1 : decide (cmpR x 1 > 0) = false := by rw [cmpR_gt]; exact decide_eq_false (by grind)
  have e2 : decide (cmpR (x + x) 1 ≤ 0) = true := by rw [cmpR_le]; exact decide_eq_true h1
  have en : decide (x.num < 0) = false := by rw [neg_num]; exact decide_eq_false (by grind)
  have td := fix_Told (a := A') (b := B') (w := p + 300) (p := p + 2) (by omega) (by omega) (by omega) (by omega)
  have x1 : (if (0 : Int) > pI then (0 : Int) else pI) = (p : Int) := by split <;> omega
  have x2 : (if (200 : Int) < (p : Int) then (200 : Int) else (p : Int)) = (p : Int) := if_neg (by omega)
  rw [show ((p + 300 : Nat) : Int) = (p : Int) + 300 from rfl] at rw1 td
  rw [show ((p + 2 : Nat) : Int) = (p : Int) + 2 from rfl] at td
  unfold toldLo toldHi
  generalize mkRat ((A' / 2 ^ (p + 300 - (p + 2)) : Nat) : Int) (2 ^ (p + 2)) = q1 at *
  generalize mkRat ((B' / 2 ^ (p + 300 - (p + 2)) + 1 : Nat) : Int) (2 ^ (p + 2)) = q2 at *
  rw [erv en] at n1 c1 zr sm ad rw1
  obtain ⟨s, n, d, rfl, -⟩ := hv
  clear h0 h1
  generalize cmpR x 1 = z at *
  generalize x + x = xx at *
  generalize cmpR xx 1 = z2 at *
  refine Go.Ev.Fn.intro (fn := Tryz.f156) (body := (Tryz.f156).body.get!) (by kernel_rfl) (by kernel_rfl) (by kernel_rfl) (fun _ => rfl) (Nat.le_of_ble_eq_true (by kernel_rfl)) ?_; unfold Tryz.f156; simp only [Option.get!_some]
  repeat (first | (simp only [go_sem, Nat.reduceEqDiff, Nat.reduceAdd, Nat.reduceSub, Nat.reduceMul, Nat.reduceLeDiff, Nat.reduceLT, reduceIte, reduceCtorEq, Nat.succ_ne_zero, elemsC, Int.reduceToNat, Nat.reducePow, en, x1, x2, e1, e2]) | (simp (disch := (first | omega | (simp only [AL, List.length_map]; omega))) only [AR, AL, ifT, ifF, take_all, List.length_cons, List.length_nil, Int.reduceToNat, Int.reducePow, Nat.reducePow, en, x1, x2, e1, e2]) | (refine wk_intro (by kernel_rfl) ?_) | (refine vp_draw (id := 9) (l := []) (by kernel_rfl) ?_) | (refine vp_draw (id := 11) (l := []) (by kernel_rfl) ?_) | (refine vf_of (by first | exact n1 | exact i1 | exact c1 | exact zr | exact sm | exact ad | exact c2 | exact rw1 | exact td) ?_))
theorem incb_I_lo {A' B' : Nat} (hv : RatA v x L) (hL1 : 1 ≤ L) (hL : L ≤ 200) (ha : 1 ≤ a) (ha2 : a ≤ 20) (hb : 1 ≤ b) (hb2 : b ≤ 20) (hp : p ≤ 200) (h0 : 0 < x) (h1 : x + x ≤ 1)
    (rw1 : Go.Ev.Fn CX 202 [.int .i64 (a : Int), .int .i64 (b : Int), rv x, .int .i64 ((p + 300 : Nat) : Int)] (spanV A' B')) (hl : (lim A').length ≤ 100 ∧ (lim B').length ≤ 100) :
    Go.Ev.Fn CX 156 [.int .i64 (a : Int), .int .i64 (b : Int), v, .int .i64 (p : Int)] (.tup [ballR (toldLo A' p) (toldHi B' p), .bool true]) := incb_I_loP (.inr rfl) hv hL1 hL ha ha2 hb hb2 hp h0 h1 rw1 hl
set_option maxHeartbeats 1000000 in
theorem incb_I_hiP {A' B' : Nat} {pI : Int} (hpI : (pI ≤ 0 ∧ p = 0) ∨ pI = (p : Int)) (hv : RatA v x L) (hL1 : 1 ≤ L) (hL : L ≤ 200) (ha : 1 ≤ a) (ha2 : a ≤ 20) (hb : 1 ≤ b) (hb2 : b ≤ 20) (hp : p ≤ 200) (h0 : 1 < x + x) (h1 : x < 1)
    (rw1 : Go.Ev.Fn CX 202 [.int .i64 (b : Int), .int .i64 (a : Int), rv (1 - x), .int .i64 ((p + 300 : Nat) : Int)] (spanV A' B')) (hl : (lim A').length ≤ 100 ∧ (lim B').length ≤ 100) :
    Go.Ev.Fn CX 156 [.int .i64 (a : Int), .int .i64 (b : Int), v, .int .i64 pI] (.tup [ballR (1 - toldHi B' p) (1 - toldLo A' p), .bool true]) := by
  have n1 := rat_Norm hv (by omega)
  have zx := szR_of hv hL1
  have i1 := rat_Int 1 (by omega)
  have c1 := rat_Cmp (RatA_rv zx) (RatA_rv (int_szR (n := 1) (by omega))) hL1 (by omega) (by omega)
  have zr := rat_Zero (RatA_rv zx) hL1 (by omega)
  rw [decide_eq_false (by grind)] at zr
  have sm := rat_Same (RatA_rv zx) (RatA_rv (int_szR (n := 1) (by omega))) hL1 (by omega) (by omega)
  have ad := rat_Add (RatA_rv zx) (RatA_rv zx) hL1 hL1 (by omega)
  have c2 := rat_Cmp (RatA_rv (szR_add zx zx hL1)) (RatA_rv (int_szR (n := 1) (by omega))) (by omega) (by omega) (by omega)
  have b1 := ball_Of (RatA_rv (int_szR (n := 1) (by omega))) (by omega)
  have sb := rat_Sub (RatA_rv (int_szR (n := 1) (by omega))) (RatA_rv zx) (by omega) hL1 (by omega)
  have one1 : szR 1 1 := ⟨lim_len_lt (by decide +kernel), lim_len_lt (by decide +kernel)⟩
  rw [show ((1 : Int) : Rat) = 1 from rfl] at i1 c1 sm c2 b1 sb
  rw [decide_eq_false (show ¬ x = 1 by grind)] at sm
  have e1 : decide (cmpR x 1 > 0) = false := by rw [cmpR_gt]; exact decide_eq_false (by grind)
  have e2 : decide (cmpR (x + x) 1 ≤ 0) = false := by rw [cmpR_le]; exact decide_eq_false (by grind)
  have en : decide (x.num < 0) = false := by rw [neg_num]; exact decide_eq_false (by grind)
  have td := fix_Told (a := A') (b := B') (w := p + 300) (p := p + 2) (by omega) (by omega) (by omega) (by omega)
  obtain ⟨z1, z2⟩ := told_sz (p := p) hp hl.1 hl.2
  have bs := ball_Sub (a := 1) (b := 1) (L := 101) (szR_mono one1 (by omega)) (szR_mono one1 (by omega)) z1 z2 (by omega) (by omega)
  have x1 : (if (0 : Int) > pI then (0 : Int) else pI) = (p : Int) := by split <;> omega
  have x2 : (if (200 : Int) < (p : Int) then (200 : Int) else (p : Int)) = (p : Int) := if_neg (by omega)
  rw [show ((p + 300 : Nat) : Int) = (p : Int) + 300 from rfl] at rw1 td
  rw [show ((p + 2 : Nat) : Int) = (p : Int) + 2 from rfl] at td
  unfold toldLo toldHi at *
  generalize mkRat ((A' / 2 ^ (p + 300 - (p + 2)) : Nat) : Int) (2 ^ (p + 2)) = q1 at *
  generalize mkRat ((B' / 2 ^ (p + 300 - (p + 2)) + 1 : Nat) : Int) (2 ^ (p + 2)) = q2 at *
  generalize 1 - q2 = w1 at *
  generalize 1 - q1 = w2 at *
  rw [erv en] at n1 c1 zr sm ad sb
  obtain ⟨s, n, d, rfl, -⟩ := hv
  clear h0 h1
  generalize cmpR x 1 = z at *
  generalize x + x = xx at *
  generalize cmpR xx 1 = z2' at *
  generalize 1 - x = y at *
  refine Go.Ev.Fn.intro (fn := Tryz.f156) (body := (Tryz.f156).body.get!) (by kernel_rfl) (by kernel_rfl) (by kernel_rfl) (fun _ => rfl) (Nat.le_of_ble_eq_true (by kernel_rfl)) ?_; unfold Tryz.f156; simp only [Option.get!_some]
  repeat (first | (simp only [go_sem, Nat.reduceEqDiff, Nat.reduceAdd, Nat.reduceSub, Nat.reduceMul, Nat.reduceLeDiff, Nat.reduceLT, reduceIte, reduceCtorEq, Nat.succ_ne_zero, elemsC, Int.reduceToNat, Nat.reducePow, en, x1, x2, e1, e2]) | (simp (disch := (first | omega | (simp only [AL, List.length_map]; omega))) only [AR, AL, ifT, ifF, take_all, List.length_cons, List.length_nil, Int.reduceToNat, Int.reducePow, Nat.reducePow, en, x1, x2, e1, e2]) | (refine wk_intro (by kernel_rfl) ?_) | (refine vp_draw (id := 9) (l := []) (by kernel_rfl) ?_) | (refine vp_draw (id := 11) (l := []) (by kernel_rfl) ?_) | (refine vf_of (by first | exact n1 | exact i1 | exact c1 | exact zr | exact sm | exact ad | exact c2 | exact b1 | exact sb | exact rw1 | exact td | exact bs) ?_))
theorem incb_I_hi {A' B' : Nat} (hv : RatA v x L) (hL1 : 1 ≤ L) (hL : L ≤ 200) (ha : 1 ≤ a) (ha2 : a ≤ 20) (hb : 1 ≤ b) (hb2 : b ≤ 20) (hp : p ≤ 200) (h0 : 1 < x + x) (h1 : x < 1)
    (rw1 : Go.Ev.Fn CX 202 [.int .i64 (b : Int), .int .i64 (a : Int), rv (1 - x), .int .i64 ((p + 300 : Nat) : Int)] (spanV A' B')) (hl : (lim A').length ≤ 100 ∧ (lim B').length ≤ 100) :
    Go.Ev.Fn CX 156 [.int .i64 (a : Int), .int .i64 (b : Int), v, .int .i64 (p : Int)] (.tup [ballR (1 - toldHi B' p) (1 - toldLo A' p), .bool true]) := incb_I_hiP (.inr rfl) hv hL1 hL ha ha2 hb hb2 hp h0 h1 rw1 hl
end
end Go.Proofs.YtecjelnpmcnbaaaGreat
namespace Go.Proofs.YtecjelnpmcnbaaaGreat
open Go.Ev
theorem ref4_Of {v : SV} {q : Rat} {L : Nat} (hv : RatA v q L) (hL : L ≤ 1000000) : Go.Ev.Fn CX 81 [v] (ballR q q) := by
  have n1 := ref2_Norm hv (by omega)
  obtain ⟨s, n, d, rfl, -⟩ := hv
  refine Go.Ev.Fn.intro (fn := Tryz.f81) (body := (Tryz.f81).body.get!) (by kernel_rfl) (by kernel_rfl) (by kernel_rfl) (fun _ => rfl) (Nat.le_of_ble_eq_true (by kernel_rfl)) ?_; unfold Tryz.f81; simp only [Option.get!_some]
  repeat (first | (simp only [go_sem, Nat.reduceEqDiff, Nat.reduceAdd, Nat.reduceSub, Nat.reduceMul, Nat.reduceLeDiff, Nat.reduceLT, reduceIte, reduceCtorEq, Nat.succ_ne_zero, elemsC, Int.reduceToNat, Nat.reducePow]) | (simp (disch := (first | omega | (simp only [AL, List.length_map]; omega))) only [AR, AL, ifT, ifF, take_all, List.length_cons, List.length_nil, Int.reduceToNat, Int.reducePow, Nat.reducePow]) | (refine wk_intro (by kernel_rfl) ?_) | (refine vp_draw (id := 1) (l := []) (by kernel_rfl) ?_) | (refine vf_of (by first | exact n1) ?_))
section
variable {a b c d : Rat} {L M : Nat}
end
end Go.Proofs.YtecjelnpmcnbaaaGreat
namespace Go.Proofs.YtecjelnpmcnbaaaGreat
open Go.Ev
end Go.Proofs.YtecjelnpmcnbaaaGreat
namespace Go.Proofs.YtecjelnpmcnbaaaGreat
open Go.Ev
section
variable {x : Rat} {a b p : Int} {s : Bool} {n d : List Nat}
end
end Go.Proofs.YtecjelnpmcnbaaaGreat
namespace Go.Proofs.YtecjelnpmcnbaaaGreat
open Go.Ev
theorem told_le {A B p : Nat} (h : A ≤ B) : toldLo A p ≤ toldHi B p := by
  unfold toldLo toldHi
  have P := p2_pos (p + 2)
  have h1 := Nat.div_le_div_right (c := 2 ^ (p + 300 - (p + 2))) h
  have e1 := mk_p2n (A / 2 ^ (p + 300 - (p + 2))) (p + 2)
  have e2 := mk_p2n (B / 2 ^ (p + 300 - (p + 2)) + 1) (p + 2)
  refine le_by P ?_
  rw [e1, e2]
  exact nat_le_rat (Nat.le_succ_of_le h1)
section
variable {x : Rat} {a b p : Nat} {s : Bool} {n d : List Nat}
end
end Go.Proofs.YtecjelnpmcnbaaaGreat
namespace Go.Proofs.YtecjelnpmcnbaaaGreat
open Go.Ev
def rtH : Nat := 3719477765947668636936709211380910309956202648775464111520847020716952850542838341847190855169739343470753519934912401374452868910734655781951726854669216251345409387637183634523568089081173655040240750070105177
def S2 : Rat := mkRat (rtH : Int) (2 ^ 700)
def hfGo (a b : Nat) : Nat → Nat → Nat → Nat → Nat → Nat × Nat × Nat
  | 0, _, n, d, s => (n, d, s)
  | f + 1, k, n, d, s => pin (n * (a + b + 2 * k)) fun n' => pin (2 * (a + 2 + 2 * k)) fun m => pin (d * m) fun d' => pin (s * m + n') fun s' => pin (k + 1) fun k' => hfGo a b f k' n' d' s'
theorem hfGo_is (a b : Nat) : ∀ (f k n d s : Nat), rR (1 / 2) a b k * (d : Rat) = (n : Rat) → sR (1 / 2) a b k * (d : Rat) = (s : Rat) → 0 < d →
    rR (1 / 2) a b (k + f) * ((hfGo a b f k n d s).2.1 : Rat) = ((hfGo a b f k n d s).1 : Rat) ∧ sR (1 / 2) a b (k + f) * ((hfGo a b f k n d s).2.1 : Rat) = ((hfGo a b f k n d s).2.2 : Rat) ∧ 0 < (hfGo a b f k n d s).2.1 := by
  intro f
  induction f with
  | zero => intro k n d s h1 h2 h3; exact ⟨h1, h2, h3⟩
  | succ f ih =>
    intro k n d s h1 h2 h3
    rw [hfGo]
    simp only [pin_eq]
    have c : ∀ u v : Nat, ((u * v : Nat) : Rat) = (u : Rat) * (v : Rat) := by intro u v; exact_mod_cast rfl
    have c2 : ∀ u v : Nat, ((u + v : Nat) : Rat) = (u : Rat) + (v : Rat) := by intro u v; exact_mod_cast rfl
    have M : (0 : Rat) < ((a + 2 + 2 * k : Nat) : Rat) := by exact_mod_cast (show 0 < a + 2 + 2 * k by omega)
    have r : rR (1 / 2) a b (k + 1) * ((d * (2 * (a + 2 + 2 * k)) : Nat) : Rat) = ((n * (a + b + 2 * k) : Nat) : Rat) := by
      have e : rR (1 / 2) a b (k + 1) = rR (1 / 2) a b k * (1 / 2) * ((a + b + 2 * k : Nat) : Rat) / ((a + 2 + 2 * k : Nat) : Rat) := rfl
      have e2 := Rat.div_mul_cancel (a := rR (1 / 2) a b k * (1 / 2) * ((a + b + 2 * k : Nat) : Rat)) (b := ((a + 2 + 2 * k : Nat) : Rat)) (by grind)
      rw [← e] at e2
      rw [c, c, c, ← h1]
      have two : ((2 : Nat) : Rat) = 2 := rfl
      have hh : (1 / 2 : Rat) * 2 = 1 := by decide +kernel
      rw [two]
      generalize ((a + 2 + 2 * k : Nat) : Rat) = m at *
      generalize ((a + b + 2 * k : Nat) : Rat) = q at *
      generalize rR (1 / 2) a b (k + 1) = z at *
      generalize (1 / 2 : Rat) = hf at *
      grind
    have sm : sR (1 / 2) a b (k + 1) * ((d * (2 * (a + 2 + 2 * k)) : Nat) : Rat) = ((s * (2 * (a + 2 + 2 * k)) + n * (a + b + 2 * k) : Nat) : Rat) := by
      have e : sR (1 / 2) a b (k + 1) = sR (1 / 2) a b k + rR (1 / 2) a b (k + 1) := rfl
      rw [e, c2, ← r, c s, ← h2, c d]
      generalize rR (1 / 2) a b (k + 1) = z at *
      generalize sR (1 / 2) a b k = y at *
      grind
    have := ih (k + 1) _ _ _ r sm (Nat.mul_pos h3 (by omega))
    rw [show k + 1 + f = k + (f + 1) by omega] at this
    exact this
def hfN (a b : Nat) : Nat × Nat × Nat :=
  pin ((beta2 a b).den * 2) fun D2 => pin ((beta2 a b).num.natAbs * a) fun N2 =>
  pin (rtH ^ (a % 2 + b % 2) * D2 * (if a % 2 * (b % 2) = 1 then 2 ^ 700 else 1)) fun u => pin (2 ^ (a / 2 + b / 2) * 2 ^ (700 * (a % 2 + b % 2)) * N2 * (if a % 2 * (b % 2) = 1 then piW else 1)) fun v =>
  match hfGo a b 120 0 1 1 1 with
  | (n, d, s) => pin (u * s) fun l => pin (u * (s + 3 * n)) fun h => pin (v * d) fun e => (l, h, e)
def hfOk (a b : Nat) : Bool := match hfN a b with
  | (l1, h1, e1) => match hfN b a with
    | (l2, h2, e2) => pin (l1 * e2 + l2 * e1) fun lo => pin (h1 * e2 + h2 * e1) fun hi => pin (e1 * e2) fun ee => Nat.ble ((2 ^ 66 - 1) * ee) (2 ^ 66 * lo) && Nat.ble (2 ^ 66 * hi) ((2 ^ 66 + 1) * ee)
theorem hf_ok1 : (List.range 20).all (fun j => hfOk 1 (1 + j)) = true := by decide +kernel
theorem hf_ok2 : (List.range 19).all (fun j => hfOk 2 (2 + j)) = true := by decide +kernel
theorem hf_ok3 : (List.range 18).all (fun j => hfOk 3 (3 + j)) = true := by decide +kernel
theorem hf_ok4 : (List.range 17).all (fun j => hfOk 4 (4 + j)) = true := by decide +kernel
theorem hf_ok5 : (List.range 16).all (fun j => hfOk 5 (5 + j)) = true := by decide +kernel
theorem hf_ok6 : (List.range 15).all (fun j => hfOk 6 (6 + j)) = true := by decide +kernel
theorem hf_ok7 : (List.range 14).all (fun j => hfOk 7 (7 + j)) = true := by decide +kernel
theorem hf_ok8 : (List.range 13).all (fun j => hfOk 8 (8 + j)) = true := by decide +kernel
theorem hf_ok9 : (List.range 12).all (fun j => hfOk 9 (9 + j)) = true := by decide +kernel
theorem hf_ok10 : (List.range 11).all (fun j => hfOk 10 (10 + j)) = true := by decide +kernel
theorem hf_ok11 : (List.range 10).all (fun j => hfOk 11 (11 + j)) = true := by decide +kernel
theorem hf_ok12 : (List.range 9).all (fun j => hfOk 12 (12 + j)) = true := by decide +kernel
theorem hf_ok13 : (List.range 8).all (fun j => hfOk 13 (13 + j)) = true := by decide +kernel
theorem hf_ok14 : (List.range 7).all (fun j => hfOk 14 (14 + j)) = true := by decide +kernel
theorem hf_ok15 : (List.range 6).all (fun j => hfOk 15 (15 + j)) = true := by decide +kernel
theorem hf_ok16 : (List.range 5).all (fun j => hfOk 16 (16 + j)) = true := by decide +kernel
theorem hf_ok17 : (List.range 4).all (fun j => hfOk 17 (17 + j)) = true := by decide +kernel
theorem hf_ok18 : (List.range 3).all (fun j => hfOk 18 (18 + j)) = true := by decide +kernel
theorem hf_ok19 : (List.range 2).all (fun j => hfOk 19 (19 + j)) = true := by decide +kernel
theorem hf_ok20 : (List.range 1).all (fun j => hfOk 20 (20 + j)) = true := by decide +kernel
theorem hf_all {a b : Nat} (h1 : 1 ≤ a) (h2 : a ≤ b) (h3 : b ≤ 20) : hfOk a b = true := by
  have g : ∀ c, (List.range (21 - c)).all (fun j => hfOk c (c + j)) = true → c ≤ b → hfOk c b = true := fun c h hc => by
    have := List.all_eq_true.1 h (b - c) (List.mem_range.2 (by omega))
    rwa [show c + (b - c) = b by omega] at this
  have hc : a = 1 ∨ a = 2 ∨ a = 3 ∨ a = 4 ∨ a = 5 ∨ a = 6 ∨ a = 7 ∨ a = 8 ∨ a = 9 ∨ a = 10 ∨ a = 11 ∨ a = 12 ∨ a = 13 ∨ a = 14 ∨ a = 15 ∨ a = 16 ∨ a = 17 ∨ a = 18 ∨ a = 19 ∨ a = 20 := by omega
  rcases hc with rfl | rfl | rfl | rfl | rfl | rfl | rfl | rfl | rfl | rfl | rfl | rfl | rfl | rfl | rfl | rfl | rfl | rfl | rfl | rfl
  · exact g 1 hf_ok1 h2
  · exact g 2 hf_ok2 h2
  · exact g 3 hf_ok3 h2
  · exact g 4 hf_ok4 h2
  · exact g 5 hf_ok5 h2
  · exact g 6 hf_ok6 h2
  · exact g 7 hf_ok7 h2
  · exact g 8 hf_ok8 h2
  · exact g 9 hf_ok9 h2
  · exact g 10 hf_ok10 h2
  · exact g 11 hf_ok11 h2
  · exact g 12 hf_ok12 h2
  · exact g 13 hf_ok13 h2
  · exact g 14 hf_ok14 h2
  · exact g 15 hf_ok15 h2
  · exact g 16 hf_ok16 h2
  · exact g 17 hf_ok17 h2
  · exact g 18 hf_ok18 h2
  · exact g 19 hf_ok19 h2
  · exact g 20 hf_ok20 h2
end Go.Proofs.YtecjelnpmcnbaaaGreat
namespace Go.Proofs.YtecjelnpmcnbaaaGreat
open Go.Ev
theorem S2_mul : S2 * p2 700 = (rtH : Rat) := mk_p2n rtH 700
theorem sq_mon {x y : Rat} (hx : 0 ≤ x) (hy : 0 ≤ y) (h : x * x ≤ y * y) : x ≤ y := by
  rcases Rat.le_total (a := x) (b := y) with g | g
  · exact g
  · by_cases e : y = x
    · rw [e]; exact Rat.le_refl
    · have h1 : y < x := by grind
      have h2 : y * y ≤ x * y := Rat.mul_le_mul_of_nonneg_right g hy
      have h3 : x * y < x * x := by
        have : 0 < x * (x - y) := Rat.mul_pos (by grind) (by grind)
        grind
      grind
theorem S2_nn : 0 ≤ S2 := le_by (p2_pos 700) (by rw [S2_mul, Rat.zero_mul]; exact nat_nonneg _)
theorem cmN (a b : Nat) : ((a * b : Nat) : Rat) = (a : Rat) * (b : Rat) := by exact_mod_cast rfl
theorem cnN (a b : Nat) : ((a + b : Nat) : Rat) = (a : Rat) + (b : Rat) := by exact_mod_cast rfl
theorem S2_abs {r P Q : Nat} {S : Rat} (hP : 0 < P) (e : S * (P : Rat) = (r : Rat)) (n1 : P * P ≤ 2 * (r * r)) (n2 : Q * (2 * (r * r)) ≤ Q * (P * P) + 2 * (P * P)) : 1 / 2 ≤ S * S ∧ (S * S - 1 / 2) * (Q : Rat) ≤ 1 := by
  have P0 : (0 : Rat) < (P : Rat) := by exact_mod_cast hP
  have PP : 0 < (P : Rat) * (P : Rat) := Rat.mul_pos P0 P0
  have m1 := nat_le_rat n1
  have m2 := nat_le_rat n2
  have d1 : ((2 * (r * r) : Nat) : Rat) = 2 * ((r : Rat) * (r : Rat)) := by exact_mod_cast rfl
  have d2 : ((2 * (P * P) : Nat) : Rat) = 2 * ((P : Rat) * (P : Rat)) := by exact_mod_cast rfl
  rw [cmN, d1, ← e] at m1
  rw [cmN, cnN, cmN Q, d1, d2, cmN P, ← e] at m2
  have q : S * (P : Rat) * (S * (P : Rat)) = S * S * ((P : Rat) * (P : Rat)) := by grind
  rw [q] at m1 m2
  clear q n1 n2 d1 d2 e hP P0
  generalize (P : Rat) * (P : Rat) = Z at *
  generalize S * S = t at *
  generalize (Q : Rat) = u at *
  have hh : (1 / 2 : Rat) * 2 = 1 := by decide +kernel
  generalize (1 / 2 : Rat) = hf at *
  have f1 : hf * Z * 2 = Z := by
    have : hf * Z * 2 = hf * 2 * Z := by grind
    rw [this, hh, Rat.one_mul]
  have f2 : (t - hf) * u * Z * 2 = u * (2 * (t * Z)) - u * (hf * Z * 2) := by grind
  refine ⟨le_by PP ?_, le_by PP ?_⟩
  · grind
  · rw [f1] at f2
    grind
theorem S2_sq : 1 / 2 ≤ S2 * S2 ∧ (S2 * S2 - 1 / 2) * p2 690 ≤ 1 := by
  obtain ⟨E, hE⟩ : ∃ E : Nat, E = 690 := ⟨_, rfl⟩
  obtain ⟨F, hF⟩ : ∃ F : Nat, F = 700 := ⟨_, rfl⟩
  have m := S2_mul
  rw [← hF] at m
  have h := S2_abs (P := 2 ^ F) (Q := 2 ^ E) (Nat.pow_pos (by omega)) m (by rw [hF]; decide +kernel) (by rw [hE, hF]; decide +kernel)
  rw [← hE]
  exact h
end Go.Proofs.YtecjelnpmcnbaaaGreat
namespace Go.Proofs.YtecjelnpmcnbaaaGreat
open Go.Ev
section
variable {v : SV} {x : Rat} {A B p : Nat}
end
end Go.Proofs.YtecjelnpmcnbaaaGreat
namespace Go.Proofs.YtecjelnpmcnbaaaGreat
open Go.Ev
def rtF (a : Nat) (s : Rat) : Rat := if a % 2 = 1 then s else 1
def fsG (a b : Nat) : Rat := (pwR (1 / 2) (a / 2) * pwR (1 / 2) (b / 2)) * (((beta2 a b).den * 2 : Nat) : Rat) / (((beta2 a b).num.natAbs * a : Nat) : Rat) * (if a % 2 * (b % 2) = 1 then 1 / PI0 else 1)
theorem fstR_is (a b : Nat) (s s' : Rat) : fstR a b (1 / 2) s s' = fsG a b * (rtF a s * rtF b s') := by
  have e : (1 : Rat) - 1 / 2 = 1 / 2 := by decide +kernel
  unfold fstR fsG rtF
  rw [e, Rat.div_def, Rat.div_def]
  generalize (if a % 2 = 1 then s else 1) = u
  generalize (if b % 2 = 1 then s' else 1) = v
  generalize (if a % 2 * (b % 2) = 1 then 1 / PI0 else 1) = z
  generalize pwR (1 / 2) (a / 2) = f
  generalize pwR (1 / 2) (b / 2) = g
  grind
theorem inv_nn {x : Rat} (h : 0 < x) : 0 ≤ x⁻¹ := by have := Rat.inv_pos.2 h; grind
theorem PI0_pos : 0 < PI0 := by
  have P := p2_pos 700
  have h := PI0_mul
  have w : (0 : Rat) < (piW : Rat) := by exact_mod_cast (show 0 < piW by decide +kernel)
  rcases Rat.le_total (a := PI0) (b := 0) with g | g
  · have := Rat.mul_le_mul_of_nonneg_right g (show 0 ≤ p2 700 by grind)
    grind
  · by_cases h0 : PI0 = 0
    · rw [h0, Rat.zero_mul] at h; grind
    · grind
theorem fsG_nn {a b : Nat} (ha : 1 ≤ a) (hb : 1 ≤ b) (ha2 : a ≤ 20) (hb2 : b ≤ 20) : 0 ≤ fsG a b := by
  have h := (bet_ok ha hb ha2 hb2).2
  have N : (0 : Rat) < (((beta2 a b).num.natAbs * a : Nat) : Rat) := by exact_mod_cast h
  unfold fsG
  rw [Rat.div_def]
  refine Rat.mul_nonneg (Rat.mul_nonneg (Rat.mul_nonneg (Rat.mul_nonneg (pwR_nn (by decide +kernel) _) (pwR_nn (by decide +kernel) _)) (nat_nonneg _)) (inv_nn N)) ?_
  split
  · have := PI0_pos
    rw [Rat.div_def, Rat.one_mul]
    exact inv_nn this
  · decide
theorem pw_half : ∀ n, pwR (1 / 2) n * ((2 ^ n : Nat) : Rat) = 1
  | 0 => by show (1 : Rat) * ((1 : Nat) : Rat) = 1; decide +kernel
  | n + 1 => by
    have ih := pw_half n
    have c : ((2 ^ (n + 1) : Nat) : Rat) = ((2 ^ n : Nat) : Rat) * 2 := by rw [Nat.pow_succ, cmN]; rfl
    show pwR (1 / 2) n * (1 / 2) * _ = 1
    rw [c]
    have hh : (1 / 2 : Rat) * 2 = 1 := by decide +kernel
    have e : pwR (1 / 2) n * (1 / 2) * (((2 ^ n : Nat) : Rat) * 2) = pwR (1 / 2) n * ((2 ^ n : Nat) : Rat) * (1 / 2 * 2) := by
      generalize (1 / 2 : Rat) = hf
      grind
    rw [e, ih, hh]; decide +kernel
theorem rtF_S2 (a : Nat) : rtF a S2 * ((2 ^ (700 * (a % 2)) : Nat) : Rat) = ((rtH ^ (a % 2) : Nat) : Rat) := by
  obtain ⟨F, hF⟩ : ∃ F : Nat, F = 700 := ⟨_, rfl⟩
  have m := S2_mul
  rw [← hF] at m ⊢
  unfold rtF
  have h : a % 2 = 0 ∨ a % 2 = 1 := by omega
  rcases h with h | h
  · rw [h, if_neg (by omega), Nat.mul_zero, Nat.pow_zero, Nat.pow_zero]; decide +kernel
  · rw [h, if_pos rfl, Nat.mul_one, Nat.pow_one]
    exact m
theorem hf_pt {a b l h e : Nat} (ha : 1 ≤ a) (hb : 1 ≤ b) (ha2 : a ≤ 20) (hb2 : b ≤ 20) (hN : hfN a b = (l, h, e)) :
    fsG a b * (rtF a S2 * rtF b S2) * sR (1 / 2) a b 120 * (e : Rat) = (l : Rat) ∧ fsG a b * (rtF a S2 * rtF b S2) * (sR (1 / 2) a b 120 + 3 * rR (1 / 2) a b 120) * (e : Rat) = (h : Rat) ∧ (0 : Rat) < (e : Rat) := by
  have hk := (bet_ok ha hb ha2 hb2).2
  have g := hfGo_is a b 120 0 1 1 1 (by show (1 : Rat) * ((1 : Nat) : Rat) = _; decide +kernel) (by show (1 : Rat) * ((1 : Nat) : Rat) = _; decide +kernel) (by omega)
  unfold hfN at hN
  simp only [pin_eq] at hN
  rw [Nat.zero_add] at g
  generalize hfGo a b 120 0 1 1 1 = G at *
  obtain ⟨n, d, s⟩ := G
  simp only [Prod.mk.injEq] at hN
  simp only at g
  obtain ⟨g1, g2, g3⟩ := g
  obtain ⟨rfl, rfl, rfl⟩ := hN
  obtain ⟨D2, hD2⟩ : ∃ D, D = (beta2 a b).den * 2 := ⟨_, rfl⟩
  obtain ⟨N2, hN2⟩ : ∃ N, N = (beta2 a b).num.natAbs * a := ⟨_, rfl⟩
  have p1 := pw_half (a / 2)
  have p3 := pw_half (b / 2)
  have r1 := rtF_S2 a
  have r2 := rtF_S2 b
  unfold fsG
  rw [← hD2, ← hN2]
  rw [← hN2] at hk
  have N : (0 : Rat) < (N2 : Rat) := by exact_mod_cast hk
  have dv : ∀ y : Rat, y / (N2 : Rat) * (N2 : Rat) = y := fun y => Rat.div_mul_cancel (by grind)
  have pq : (if a % 2 * (b % 2) = 1 then 1 / PI0 else 1) * (((if a % 2 * (b % 2) = 1 then piW else 1 : Nat)) : Rat) = ((if a % 2 * (b % 2) = 1 then 2 ^ 700 else 1 : Nat) : Rat) := by
    split
    · have P := PI0_pos
      rw [← PI0_mul, Rat.div_def, Rat.one_mul, ← Rat.mul_assoc, Rat.inv_mul_cancel _ (by grind), Rat.one_mul]
    · decide +kernel
  have n0 : 0 < (if a % 2 * (b % 2) = 1 then piW else 1) := by split <;> decide +kernel
  have cS : ((2 ^ (700 * (a % 2 + b % 2)) : Nat) : Rat) = ((2 ^ (700 * (a % 2)) : Nat) : Rat) * ((2 ^ (700 * (b % 2)) : Nat) : Rat) := by
    rw [← cmN, ← Nat.pow_add, ← Nat.mul_add]
  have cH : ((2 ^ (a / 2 + b / 2) : Nat) : Rat) = ((2 ^ (a / 2) : Nat) : Rat) * ((2 ^ (b / 2) : Nat) : Rat) := by rw [← cmN, ← Nat.pow_add]
  have cR : ((rtH ^ (a % 2 + b % 2) : Nat) : Rat) = ((rtH ^ (a % 2) : Nat) : Rat) * ((rtH ^ (b % 2) : Nat) : Rat) := by rw [← cmN, ← Nat.pow_add]
  have c3 : ((s + 3 * n : Nat) : Rat) = (s : Rat) + 3 * (n : Rat) := by exact_mod_cast rfl
  obtain ⟨q1, hq1⟩ : ∃ z : Rat, z = (if a % 2 * (b % 2) = 1 then 1 / PI0 else 1) := ⟨_, rfl⟩
  obtain ⟨q2, hq2⟩ : ∃ z : Nat, z = (if a % 2 * (b % 2) = 1 then piW else 1) := ⟨_, rfl⟩
  obtain ⟨q3, hq3⟩ : ∃ z : Nat, z = (if a % 2 * (b % 2) = 1 then 2 ^ 700 else 1) := ⟨_, rfl⟩
  rw [← hq1, ← hq2, ← hq3] at pq
  rw [← hq2] at n0
  rw [← hq1, ← hq2, ← hq3]
  clear hq1 hq2 hq3
  obtain ⟨z1, hz1⟩ : ∃ z : Nat, z = 2 ^ (700 * (a % 2)) := ⟨_, rfl⟩
  obtain ⟨z2, hz2⟩ : ∃ z : Nat, z = 2 ^ (700 * (b % 2)) := ⟨_, rfl⟩
  obtain ⟨z5, hz5⟩ : ∃ z : Nat, z = 2 ^ (700 * (a % 2 + b % 2)) := ⟨_, rfl⟩
  have n5 : 0 < z5 := by rw [hz5]; exact Nat.pow_pos (by omega)
  have n6 : 0 < 2 ^ (a / 2 + b / 2) := Nat.pow_pos (by omega)
  rw [← hz1] at r1
  rw [← hz2] at r2
  rw [← hz1, ← hz2, ← hz5] at cS
  rw [← hz5]
  clear hz1 hz2 hz5
  generalize pwR (1 / 2) (a / 2) = w1 at *
  generalize pwR (1 / 2) (b / 2) = w2 at *
  generalize rtF a S2 = f1 at *
  generalize rtF b S2 = f2 at *
  generalize sR (1 / 2) a b 120 = sr at *
  generalize rR (1 / 2) a b 120 = rr at *
  generalize rtH ^ (a % 2 + b % 2) = h5 at *
  generalize rtH ^ (a % 2) = h3 at *
  generalize rtH ^ (b % 2) = h4 at *
  generalize 2 ^ (a / 2 + b / 2) = z6 at *
  generalize 2 ^ (a / 2) = z3 at *
  generalize 2 ^ (b / 2) = z4 at *
  have d2 := dv (w1 * w2 * (D2 : Rat))
  generalize w1 * w2 * (D2 : Rat) / (N2 : Rat) = y at *
  have key : y * q1 * (f1 * f2) * ((z6 * z5 * N2 * q2 : Nat) : Rat) = ((h5 * D2 * q3 : Nat) : Rat) := by
    rw [cmN, cmN, cmN z6, cS, cH, cmN, cmN h5, cR, ← pq, ← r1, ← r2]
    have e1 : y * q1 * (f1 * f2) * ((z3 : Rat) * (z4 : Rat) * ((z1 : Rat) * (z2 : Rat)) * (N2 : Rat) * (q2 : Rat)) = (y * (N2 : Rat)) * ((z3 : Rat) * (z4 : Rat)) * (q1 * (q2 : Rat)) * (f1 * (z1 : Rat) * (f2 * (z2 : Rat))) := by grind
    have e2 : (w1 * w2 * (D2 : Rat)) * ((z3 : Rat) * (z4 : Rat)) * (q1 * (q2 : Rat)) * (f1 * (z1 : Rat) * (f2 * (z2 : Rat))) = (w1 * (z3 : Rat)) * (w2 * (z4 : Rat)) * (f1 * (z1 : Rat) * (f2 * (z2 : Rat)) * (D2 : Rat) * (q1 * (q2 : Rat))) := by grind
    rw [e1, d2, e2, p1, p3, Rat.one_mul, Rat.one_mul]
  have vp : 0 < z6 * z5 * N2 * q2 := Nat.mul_pos (Nat.mul_pos (Nat.mul_pos n6 n5) hk) n0
  generalize z6 * z5 * N2 * q2 = v at *
  generalize h5 * D2 * q3 = u at *
  clear d2 dv cS cH cR pq r1 r2 p1 p3 N n0 n5 n6 hk hN2 hD2
  generalize y * q1 * (f1 * f2) = C at *
  refine ⟨?_, ?_, ?_⟩
  · rw [cmN, cmN, ← key, ← g2]
    grind
  · rw [cmN, cmN, c3, ← key, ← g2, ← g1]
    grind
  · exact_mod_cast Nat.mul_pos vp g3
def hfLo (a b : Nat) : Rat := fsG a b * (rtF a S2 * rtF b S2) * sR (1 / 2) a b 120
def hfHi (a b : Nat) : Rat := fsG a b * (rtF a S2 * rtF b S2) * (sR (1 / 2) a b 120 + 3 * rR (1 / 2) a b 120)
theorem hf_sum1 {a b : Nat} (ha : 1 ≤ a) (hb : 1 ≤ b) (ha2 : a ≤ 20) (hb2 : b ≤ 20) (h : hfOk a b = true) :
    73786976294838206463 ≤ 73786976294838206464 * (hfLo a b + hfLo b a) ∧ 73786976294838206464 * (hfHi a b + hfHi b a) ≤ 73786976294838206465 := by
  unfold hfLo hfHi
  have p1 := hf_pt (l := (hfN a b).1) (h := (hfN a b).2.1) (e := (hfN a b).2.2) ha hb ha2 hb2 rfl
  have p2 := hf_pt (l := (hfN b a).1) (h := (hfN b a).2.1) (e := (hfN b a).2.2) hb ha hb2 ha2 rfl
  unfold hfOk at h
  generalize hfN a b = X1 at *
  generalize hfN b a = X2 at *
  obtain ⟨l1, h1, e1⟩ := X1
  obtain ⟨l2, h2, e2⟩ := X2
  simp only [pin_eq, Bool.and_eq_true] at h
  obtain ⟨k1, k2⟩ := h
  have m1 := nat_le_rat (Nat.le_of_ble_eq_true k1)
  have m2 := nat_le_rat (Nat.le_of_ble_eq_true k2)
  obtain ⟨a1, a2, a3⟩ := p1
  obtain ⟨b1, b2, b3⟩ := p2
  simp only at a1 a2 a3 b1 b2 b3
  have E := Rat.mul_pos a3 b3
  rw [cmN, cmN, cmN, cnN, cmN l1, cmN l2, ← a1, ← b1] at m1
  rw [cmN, cmN, cmN, cnN, cmN h1, cmN h2, ← a2, ← b2] at m2
  rw [show ((2 ^ 66 - 1 : Nat) : Rat) = 73786976294838206463 from rfl, show ((2 ^ 66 : Nat) : Rat) = 73786976294838206464 from rfl] at m1
  rw [show ((2 ^ 66 + 1 : Nat) : Rat) = 73786976294838206465 from rfl, show ((2 ^ 66 : Nat) : Rat) = 73786976294838206464 from rfl] at m2
  clear a1 a2 b1 b2 k1 k2
  generalize fsG a b * (rtF a S2 * rtF b S2) * sR (1 / 2) a b 120 = u1 at *
  generalize fsG b a * (rtF b S2 * rtF a S2) * sR (1 / 2) b a 120 = u2 at *
  generalize fsG a b * (rtF a S2 * rtF b S2) * (sR (1 / 2) a b 120 + 3 * rR (1 / 2) a b 120) = u3 at *
  generalize fsG b a * (rtF b S2 * rtF a S2) * (sR (1 / 2) b a 120 + 3 * rR (1 / 2) b a 120) = u4 at *
  generalize (e1 : Rat) = x1 at *
  generalize (e2 : Rat) = x2 at *
  refine ⟨le_by E ?_, le_by E ?_⟩
  · have : 73786976294838206464 * (u1 + u2) * (x1 * x2) = 73786976294838206464 * (u1 * x1 * x2 + u2 * x2 * x1) := by grind
    rw [this]; exact m1
  · have : 73786976294838206464 * (u3 + u4) * (x1 * x2) = 73786976294838206464 * (u3 * x1 * x2 + u4 * x2 * x1) := by grind
    rw [this]; exact m2
theorem hf_sum {a b : Nat} (ha : 1 ≤ a) (hb : 1 ≤ b) (ha2 : a ≤ 20) (hb2 : b ≤ 20) :
    73786976294838206463 ≤ 73786976294838206464 * (hfLo a b + hfLo b a) ∧ 73786976294838206464 * (hfHi a b + hfHi b a) ≤ 73786976294838206465 := by
  rcases Nat.le_total a b with h | h
  · exact hf_sum1 ha hb ha2 hb2 (hf_all ha h hb2)
  · have := hf_sum1 hb ha hb2 ha2 (hf_all hb h ha2)
    rw [Rat.add_comm (hfLo a b), Rat.add_comm (hfHi a b)]
    exact this
theorem sR_nnH {x : Rat} {a b : Nat} (h : 0 ≤ x) (k : Nat) : 0 ≤ sR x a b k := Rat.le_trans (show (0 : Rat) ≤ 1 by decide) (sR_up (a := a) (b := b) h (Nat.zero_le k))
section
variable {x : Rat} {a b p : Nat} {s : Bool} {n d : List Nat}
end
end Go.Proofs.YtecjelnpmcnbaaaGreat
namespace Go.Proofs.YtecjelnpmcnbaaaGreat
open Go.Ev
def fsC (a b : Nat) : Rat := (((beta2 a b).den * 2 : Nat) : Rat) * (((beta2 a b).num.natAbs * a : Nat) : Rat)⁻¹ * (if a % 2 * (b % 2) = 1 then 1 / PI0 else 1)
theorem pwR_add (q : Rat) (m n : Nat) : pwR q (m + n) = pwR q m * pwR q n := by
  induction n with
  | zero => show pwR q m = pwR q m * 1; rw [Rat.mul_one]
  | succ n ih => show pwR q (m + n) * q = pwR q m * (pwR q n * q); rw [ih, Rat.mul_assoc]
theorem pwR_half (q : Rat) (a : Nat) : pwR q a = pwR q (a / 2) * pwR q (a / 2) * rtF a q := by
  unfold rtF
  have h : a % 2 = 0 ∨ a % 2 = 1 := by omega
  rcases h with h | h
  · rw [if_neg (by omega), Rat.mul_one, ← pwR_add, show a / 2 + a / 2 = a by omega]
  · rw [if_pos h, ← pwR_add]
    have : a = a / 2 + a / 2 + 1 := by omega
    conv => lhs; rw [this]
    rfl
theorem rtF_sq_lo {q s : Rat} (a : Nat) (h : s * s ≤ q) : rtF a s * rtF a s ≤ rtF a q := by
  unfold rtF
  split
  · exact h
  · rw [Rat.mul_one]; exact Rat.le_refl
theorem rtF_sq_hi {q s : Rat} (a : Nat) (h : q ≤ s * s) : rtF a q ≤ rtF a s * rtF a s := by
  unfold rtF
  split
  · exact h
  · rw [Rat.mul_one]; exact Rat.le_refl
theorem rtF_nn {s : Rat} (a : Nat) (h : 0 ≤ s) : 0 ≤ rtF a s := by
  unfold rtF
  split
  · exact h
  · decide
theorem fstR_sq (a b : Nat) (x sx sy : Rat) : fstR a b x sx sy = fsC a b * (pwR x (a / 2) * rtF a sx * (pwR (1 - x) (b / 2) * rtF b sy)) := by
  unfold fstR fsC rtF
  rw [Rat.div_def]
  generalize (if a % 2 = 1 then sx else 1) = u
  generalize (if b % 2 = 1 then sy else 1) = v
  generalize (if a % 2 * (b % 2) = 1 then 1 / PI0 else 1) = z
  grind
theorem mul_self_nn (x : Rat) : 0 ≤ x * x := by
  rcases Rat.le_total (a := 0) (b := x) with h | h
  · exact Rat.mul_nonneg h h
  · have := Rat.mul_nonneg (show 0 ≤ -x by grind) (show 0 ≤ -x by grind)
    grind
theorem mul_both {a b c d : Rat} (h1 : a ≤ b) (h2 : c ≤ d) (hb : 0 ≤ b) (hc : 0 ≤ c) : a * c ≤ b * d :=
  Rat.le_trans (Rat.mul_le_mul_of_nonneg_right h1 hc) (Rat.mul_le_mul_of_nonneg_left h2 hb)
section
variable {x sx sy : Rat} {a b k : Nat}
theorem sh_lo (hx : 0 ≤ x) (hx1 : x ≤ 1) (h1 : sx * sx ≤ x) (h2 : sy * sy ≤ 1 - x) : fstR a b x sx sy * sR x a b k * (fstR a b x sx sy * sR x a b k) ≤ fsC a b * fsC a b * shG a b k x := by
  have e1 := rtF_sq_lo a h1
  have e2 := rtF_sq_lo b h2
  unfold shG
  rw [fstR_sq, pwR_half x a, pwR_half (1 - x) b]
  have n1 : 0 ≤ pwR x (a / 2) * pwR x (a / 2) := Rat.mul_nonneg (pwR_nn hx _) (pwR_nn hx _)
  have n2 : 0 ≤ pwR (1 - x) (b / 2) * pwR (1 - x) (b / 2) := Rat.mul_nonneg (pwR_nn (by grind) _) (pwR_nn (by grind) _)
  have n3 : 0 ≤ rtF a x := rtF_nn a hx
  have n4 : 0 ≤ rtF b sy * rtF b sy := mul_self_nn _
  have n5 : 0 ≤ fsC a b * fsC a b := mul_self_nn _
  have n6 : 0 ≤ sR x a b k * sR x a b k := mul_self_nn _
  have m := mul_both e1 e2 n3 n4
  have m2 := Rat.mul_le_mul_of_nonneg_left m (Rat.mul_nonneg (Rat.mul_nonneg n5 n6) (Rat.mul_nonneg n1 n2))
  generalize fsC a b = c at *
  generalize sR x a b k = s at *
  generalize pwR x (a / 2) = u at *
  generalize pwR (1 - x) (b / 2) = v at *
  generalize rtF a sx = r1 at *
  generalize rtF b sy = r2 at *
  generalize rtF a x = r3 at *
  generalize rtF b (1 - x) = r4 at *
  have q1 : c * (u * r1 * (v * r2)) * s * (c * (u * r1 * (v * r2)) * s) = c * c * (s * s) * (u * u * (v * v)) * (r1 * r1 * (r2 * r2)) := by grind
  have q2 : c * c * (u * u * r3 * (v * v * r4) * (s * s)) = c * c * (s * s) * (u * u * (v * v)) * (r3 * r4) := by grind
  rw [q1, q2]; exact m2
theorem sh_hi (hx : 0 ≤ x) (hx1 : x ≤ 1) (h1 : x ≤ sx * sx) (h2 : 1 - x ≤ sy * sy) : fsC a b * fsC a b * shG a b k x ≤ fstR a b x sx sy * sR x a b k * (fstR a b x sx sy * sR x a b k) := by
  have e1 := rtF_sq_hi a h1
  have e2 := rtF_sq_hi b h2
  unfold shG
  rw [fstR_sq, pwR_half x a, pwR_half (1 - x) b]
  have n1 : 0 ≤ pwR x (a / 2) * pwR x (a / 2) := Rat.mul_nonneg (pwR_nn hx _) (pwR_nn hx _)
  have n2 : 0 ≤ pwR (1 - x) (b / 2) * pwR (1 - x) (b / 2) := Rat.mul_nonneg (pwR_nn (by grind) _) (pwR_nn (by grind) _)
  have n3 : 0 ≤ rtF a sx * rtF a sx := mul_self_nn _
  have n4 : 0 ≤ rtF b (1 - x) := rtF_nn b (by grind)
  have n5 : 0 ≤ fsC a b * fsC a b := mul_self_nn _
  have n6 : 0 ≤ sR x a b k * sR x a b k := mul_self_nn _
  have m := mul_both e1 e2 n3 n4
  have m2 := Rat.mul_le_mul_of_nonneg_left m (Rat.mul_nonneg (Rat.mul_nonneg n5 n6) (Rat.mul_nonneg n1 n2))
  generalize fsC a b = c at *
  generalize sR x a b k = s at *
  generalize pwR x (a / 2) = u at *
  generalize pwR (1 - x) (b / 2) = v at *
  generalize rtF a sx = r1 at *
  generalize rtF b sy = r2 at *
  generalize rtF a x = r3 at *
  generalize rtF b (1 - x) = r4 at *
  have q1 : c * (u * r1 * (v * r2)) * s * (c * (u * r1 * (v * r2)) * s) = c * c * (s * s) * (u * u * (v * v)) * (r1 * r1 * (r2 * r2)) := by grind
  have q2 : c * c * (u * u * r3 * (v * v * r4) * (s * s)) = c * c * (s * s) * (u * u * (v * v)) * (r3 * r4) := by grind
  rw [q1, q2]; exact m2
end
def RowS (a b w : Nat) (x : Rat) (A B : Nat) : Prop := ∃ K : Nat, ∀ m, K ≤ m → (A : Rat) * (A : Rat) ≤ fsC a b * fsC a b * shG a b m x * (p2 w * p2 w) ∧ fsC a b * fsC a b * shG a b m x * (p2 w * p2 w) ≤ (B : Rat) * (B : Rat)
theorem sq_pair (u w : Rat) : u * w * (u * w) = u * u * (w * w) := by grind
section
variable {x : Rat} {a b p L : Nat}
theorem row_sq (hz : szR x L) (hL1 : 1 ≤ L) (hL : L ≤ 200) (ha : 1 ≤ a) (ha2 : a ≤ 20) (hb : 1 ≤ b) (hb2 : b ≤ 20) (hp : p ≤ 200) (h0 : 0 ≤ x) (h1 : x + x ≤ 1) :
    ∃ A B : Nat, Go.Ev.Fn CX 202 [.int .i64 (a : Int), .int .i64 (b : Int), rv x, .int .i64 ((p + 300 : Nat) : Int)] (spanV A B) ∧ (lim A).length ≤ 100 ∧ (lim B).length ≤ 100 ∧ RowS a b (p + 300) x A B ∧ B ≤ A + 2 ^ 121 := by
  have hx1 : x ≤ 1 := by grind
  obtain ⟨F1, F2, p1, p2', q1, q2, fi, g1, g2, g3, r1, r2, r3, r4, r5, r6, r7, r8, hF⟩ := incb_fst (w := p + 300) ha ha2 hb hb2 hz hL1 hL h0 hx1 (by omega) (by omega)
  obtain ⟨A, B, K, hg⟩ := rowh_ends ha hb2 h0 h1 (by omega) (by omega) g1 g2 g3
  obtain ⟨k1, k2, k3⟩ := rowh_bd ha hb2 h0 h1 (by omega) g1 g2 g3 hg
  have f := incb_rowh ha ha2 hb hb2 hz (by omega) h0 h1 (by omega) (by omega) fi g1 g2 g3 hg
  have lB := lim_len_p2 k3 (by omega)
  have P := p2_pos (p + 300)
  have tell : ∀ sx sy, p1 ≤ sx → sx ≤ p2' → q1 ≤ sy → sy ≤ q2 → b ≤ K ∧ (A : Rat) ≤ fstR a b x sx sy * sR x a b K * p2 (p + 300) ∧ fstR a b x sx sy * sR x a b K * p2 (p + 300) + 64 ≤ (B : Rat) ∧ fstR a b x sx sy * rR x a b K * p2 (p + 300) ≤ 8 := by
    intro sx sy x1 x2 y1 y2
    have en := hF sx sy x1 x2 y1 y2
    have en1 : Enc (p + 300) F1 F2 (fstR a b x sx sy * rR x a b 0) := by
      show Enc _ _ _ (_ * 1)
      rw [Rat.mul_one]; exact en
    have en2 : Enc (p + 300) F1 F2 (fstR a b x sx sy * sR x a b 0) := en1
    exact row_enc (un_enc h0 (p + 300)) 2201 0 _ _ _ _ hg en1 en2
  have nn : ∀ sx sy, p1 ≤ sx → sx ≤ p2' → q1 ≤ sy → sy ≤ q2 → 0 ≤ fstR a b x sx sy := fun sx sy x1 x2 y1 y2 => enc_nonneg (hF sx sy x1 x2 y1 y2)
  refine ⟨A, B, f, Nat.le_trans (lim_len_mono k1) (by omega), by omega, ⟨K, fun m hm => ?_⟩, k2⟩
  obtain ⟨hbK, a1, -, -⟩ := tell p1 q1 Rat.le_refl r1 Rat.le_refl r5
  obtain ⟨-, -, b1, b2⟩ := tell p2' q2 r1 Rat.le_refl r5 Rat.le_refl
  have c1 := nn p1 q1 Rat.le_refl r1 Rat.le_refl r5
  have c2 := nn p2' q2 r1 Rat.le_refl r5 Rat.le_refl
  have s0 := sR_nnH (a := a) (b := b) h0 m
  have s1 := sR_up (a := a) (b := b) h0 hm
  have s2 := sR_top (a := a) (b := b) h0 h1 (k := K) (m := m) hbK
  have lo := sh_lo (a := a) (b := b) (k := m) h0 hx1 r3 r7
  have hi := sh_hi (a := a) (b := b) (k := m) h0 hx1 r4 r8
  have P0 : 0 ≤ p2 (p + 300) := Rat.le_of_lt P
  have A1 : (A : Rat) ≤ fstR a b x p1 q1 * sR x a b m * p2 (p + 300) := Rat.le_trans a1 (Rat.mul_le_mul_of_nonneg_right (Rat.mul_le_mul_of_nonneg_left s1 c1) P0)
  have B1 : fstR a b x p2' q2 * sR x a b m * p2 (p + 300) ≤ (B : Rat) := by
    have t := Rat.mul_le_mul_of_nonneg_right (Rat.mul_le_mul_of_nonneg_left s2 c2) P0
    refine Rat.le_trans t ?_
    clear f fi hg hF tell nn lB lo hi A1 k3 g3
    generalize fstR a b x p2' q2 = u at *
    generalize sR x a b K = v at *
    generalize rR x a b K = v' at *
    generalize p2 (p + 300) = w at *
    have e : u * (v + 3 * v') * w = u * v * w + 3 * (u * v' * w) := by grind
    rw [e]; grind
  have n1 : 0 ≤ fstR a b x p1 q1 * sR x a b m * p2 (p + 300) := Rat.mul_nonneg (Rat.mul_nonneg c1 s0) P0
  have n2 : 0 ≤ fstR a b x p2' q2 * sR x a b m * p2 (p + 300) := Rat.mul_nonneg (Rat.mul_nonneg c2 s0) P0
  have A2 := mul_both A1 A1 n1 (nat_nonneg A)
  have B2 := mul_both B1 B1 (nat_nonneg B) n2
  have lo2 := Rat.mul_le_mul_of_nonneg_right lo (mul_self_nn (p2 (p + 300)))
  have hi2 := Rat.mul_le_mul_of_nonneg_right hi (mul_self_nn (p2 (p + 300)))
  rw [sq_pair] at A2 B2
  exact ⟨Rat.le_trans A2 lo2, Rat.le_trans hi2 B2⟩
end
end Go.Proofs.YtecjelnpmcnbaaaGreat
namespace Go.Proofs.YtecjelnpmcnbaaaGreat
open Go.Ev
section
variable {a b : Nat}
theorem shG_grow {k : Nat} {x y M : Rat} (ha : 1 ≤ a) (ha2 : a ≤ 20) (hb2 : b ≤ 20) (hk : 160 ≤ k) (h0 : 0 < x) (hxy : x ≤ y) (hy : y + y ≤ 1) (hM : ∀ z, 0 ≤ z → z + z ≤ 1 → sR z a b k ≤ M) :
    shG a b k x * (M + 2 * (y - x)) ≤ shG a b k y * M := by
  obtain ⟨q, d1, e1⟩ := dif_pw dif_id a
  obtain ⟨r, d2, e2⟩ := dif_pw dif_one_sub b
  obtain ⟨s, d3, e3⟩ := dif_sR (a := a) (b := b) k
  obtain ⟨c, hc⟩ : ∃ c, c = shG a b k x := ⟨_, rfl⟩
  have d := dif_add (dif_mul (dif_const M) (dif_mul (dif_mul d1 d2) (dif_mul d3 d3))) (dif_mul (dif_const (-(2 * c))) dif_id)
  have t := dif_mono d (x := x) (y := y) (by grind) hxy (by grind) fun z z1 z2 => ?_
  · have t' : M * shG a b k x + -(2 * c) * x ≤ M * shG a b k y + -(2 * c) * y := t
    rw [← hc] at t' ⊢
    grind
  have z0 : 0 < z := by grind
  have P : 0 < z * (1 - z) := Rat.mul_pos z0 (by grind)
  have n1 := pwR_nn (q := z) (by grind) a
  have n2 := pwR_nn (q := 1 - z) (by grind) b
  have n3 : 0 ≤ sR z a b k := sR_nnH (by grind) k
  have up := shG_up (a := a) (b := b) ha ha2 hb2 hk h0 z1 (by grind)
  have late := late_small (x := z) (a := a) (b := b) (by grind) (by grind) ha ha2 hb2 hk
  have r0 := Rat.mul_nonneg (nat_nonneg (a + b + 2 * k)) (rR_nn (x := z) (a := a) (b := b) (by grind) k)
  have A1 : (1 : Rat) ≤ (a : Rat) := by exact_mod_cast ha
  have m := Rat.mul_le_mul_of_nonneg_right late (show 0 ≤ z by grind)
  have hT := e3 z
  have hm := hM z (by grind) (by grind)
  have sl := slope_id (S := sR z a b k) (s := s z) (q := q z) (r := r z) (e1 z) (e2 z)
  rw [← hc] at up
  have up' : c ≤ pwR z a * pwR (1 - z) b * (sR z a b k * sR z a b k) := up
  refine le_by P ?_
  rw [Rat.zero_mul]
  have goal : 0 ≤ (M * ((pwR z a * pwR (1 - z) b * (sR z a b k * s z + s z * sR z a b k) + (pwR z a * r z + q z * pwR (1 - z) b) * (sR z a b k * sR z a b k)) ) + -(2 * c)) * (z * (1 - z)) := by
    have ex : (M * ((pwR z a * pwR (1 - z) b * (sR z a b k * s z + s z * sR z a b k) + (pwR z a * r z + q z * pwR (1 - z) b) * (sR z a b k * sR z a b k)) ) + -(2 * c)) * (z * (1 - z)) =
      M * ((pwR z a * pwR (1 - z) b * (sR z a b k * s z + s z * sR z a b k) + (pwR z a * r z + q z * pwR (1 - z) b) * (sR z a b k * sR z a b k)) * (z * (1 - z))) - 2 * c * (z * (1 - z)) := by
      generalize (pwR z a * pwR (1 - z) b * (sR z a b k * s z + s z * sR z a b k) + (pwR z a * r z + q z * pwR (1 - z) b) * (sR z a b k * sR z a b k)) = G
      grind
    rw [ex, sl, hT]
    have q4 : 4 * (z * (1 - z)) ≤ 1 := by
      have := mul_self_nn (1 - 2 * z)
      grind
    have T2 : 1 ≤ 2 * ((a : Rat) - ((a + b + 2 * k : Nat) : Rat) * z * rR z a b k) := by grind
    have W := Rat.mul_nonneg n1 n2
    clear e1 e2 e3 d d1 d2 d3 sl hT ex hM up n1 n2 late
    generalize (a : Rat) - ((a + b + 2 * k : Nat) : Rat) * z * rR z a b k = T at *
    generalize pwR z a * pwR (1 - z) b = w at *
    generalize sR z a b k = S at *
    generalize z * (1 - z) = p at *
    have k1 : 2 * c * p ≤ 2 * (w * (S * S)) * p := Rat.mul_le_mul_of_nonneg_right (by grind) (by grind)
    have wS := Rat.mul_nonneg W (Rat.mul_nonneg n3 n3)
    have k2 := Rat.mul_le_mul_of_nonneg_left q4 wS
    have wS1 := Rat.mul_nonneg W n3
    have M0 : 0 ≤ M := Rat.le_trans n3 hm
    have k3 := Rat.mul_le_mul_of_nonneg_left hm wS1
    have k4 := Rat.mul_le_mul_of_nonneg_left T2 (Rat.mul_nonneg M0 wS1)
    grind
  have e : (M * ((pwR z a * pwR (1 - z) b) * (sR z a b k * s z + s z * sR z a b k) + (pwR z a * r z + q z * pwR (1 - z) b) * (sR z a b k * sR z a b k)) + 0 * (pwR z a * pwR (1 - z) b * (sR z a b k * sR z a b k)) + (-(2 * c) * 1 + 0 * z)) = (M * ((pwR z a * pwR (1 - z) b * (sR z a b k * s z + s z * sR z a b k) + (pwR z a * r z + q z * pwR (1 - z) b) * (sR z a b k * sR z a b k)) ) + -(2 * c)) := by
    rw [Rat.zero_mul, Rat.zero_mul, Rat.add_zero, Rat.add_zero, Rat.mul_one]
  show 0 ≤ (M * ((pwR z a * pwR (1 - z) b) * (sR z a b k * s z + s z * sR z a b k) + (pwR z a * r z + q z * pwR (1 - z) b) * (sR z a b k * sR z a b k)) + 0 * (pwR z a * pwR (1 - z) b * (sR z a b k * sR z a b k)) + (-(2 * c) * 1 + 0 * z)) * (z * (1 - z))
  rw [e]; exact goal
end
end Go.Proofs.YtecjelnpmcnbaaaGreat
namespace Go.Proofs.YtecjelnpmcnbaaaGreat
open Go.Ev
theorem hfHi_nn {a b : Nat} (ha : 1 ≤ a) (ha2 : a ≤ 20) (hb : 1 ≤ b) (hb2 : b ≤ 20) : 0 ≤ hfHi a b := by
  have hh : (1 / 2 : Rat) + 1 / 2 = 1 := by decide +kernel
  have h2 : (0 : Rat) ≤ 1 / 2 := by decide +kernel
  have G := fsG_nn ha hb ha2 hb2
  have F := Rat.mul_nonneg G (Rat.mul_nonneg (rtF_nn a S2_nn) (rtF_nn b S2_nn))
  have s := Rat.mul_le_mul_of_nonneg_left (sR_top (a := a) (b := b) (k := 120) (m := 160) h2 (by rw [hh]; exact Rat.le_refl) (by omega)) F
  have s0 := Rat.mul_nonneg F (sR_nnH (a := a) (b := b) h2 160)
  unfold hfHi
  exact Rat.le_trans s0 s
theorem hi_nn {B p : Nat} : 0 ≤ toldHi B p := by
  unfold toldHi
  have m := mk_p2n (B / 2 ^ (p + 300 - (p + 2)) + 1) (p + 2)
  refine le_by (p2_pos (p + 2)) ?_
  rw [m, Rat.zero_mul]; exact nat_nonneg _
section
variable {x y : Rat} {a b p L : Nat} {v v' : SV}
def BallS (a b p : Nat) (x l h : Rat) : Prop :=
  (x + x ≤ 1 ∧ ∃ A B : Nat, RowS a b (p + 300) x A B ∧ A ≤ B ∧ l = toldLo A p ∧ h = toldHi B p) ∨
  (1 < x + x ∧ ∃ A B : Nat, RowS b a (p + 300) (1 - x) A B ∧ A ≤ B ∧ l = 1 - toldHi B p ∧ h = 1 - toldLo A p)
theorem rows_ab {a b w : Nat} {x : Rat} {A B : Nat} (h : RowS a b w x A B) : A ≤ B := by
  obtain ⟨K, h⟩ := h
  have g := h K (Nat.le_refl _)
  have r := sq_mon (nat_nonneg A) (nat_nonneg B) (Rat.le_trans g.1 g.2)
  exact_mod_cast r
theorem ball_le {l h : Rat} (g : BallS a b p x l h) : l ≤ h := by
  rcases g with ⟨-, A, B, -, k, rfl, rfl⟩ | ⟨-, A, B, -, k, rfl, rfl⟩
  · exact told_le k
  · have := told_le (p := p) k
    grind
end
end Go.Proofs.YtecjelnpmcnbaaaGreat
