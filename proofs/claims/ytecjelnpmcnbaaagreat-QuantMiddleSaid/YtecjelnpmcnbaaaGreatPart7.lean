/- Part 7 of the proof: the evaluator, contracts of functions and their plain laws (joined by program). No condition. -/
import Derived.Test.YtecjelnpmcnbaaaGreatPart6
set_option linter.unusedVariables false
set_option linter.unusedSimpArgs false
set_option maxRecDepth 100000
namespace Go.Proofs.YtecjelnpmcnbaaaGreat
open Go.Ev
theorem times_le {x k : Nat} : (x + 1) * (2 * k) / (2 * k + 1) + 1 ≤ x + 2 := by
  have h : (x + 1) * (2 * k) / (2 * k + 1) ≤ x + 1 := (Nat.div_le_iff_le_mul (by omega)).2 (by have := Nat.mul_le_mul_left (x + 1) (show 2 * k ≤ 2 * k + 1 by omega); omega)
  omega
set_option maxHeartbeats 1000000 in
theorem arcs_angle {n d w A B : Nat} (hn : n ≤ 1000) (hd : d ≤ 1000) (hd0 : 0 < d) (hw : w ≤ 900) (hw0 : 0 < w) (h : angF n d w = some (A, B)) : Go.Ev.Fn CX 246 [natV (lim n), natV (lim d), .int .i64 (w : Int)] (spanV A B) := by
  unfold angF at h
  rw [pin_eq, pin_eq] at h
  have ln : (lim n).length ≤ 1 := lim_len_one (by omega)
  have ld : (lim d).length ≤ 1 := lim_len_one (by omega)
  have m1 := nat_MulL (N := n) (D := n) (by omega) (by omega)
  have m2 := nat_MulL (N := d) (D := d) (by omega) (by omega)
  have m3 := nat_MulL (N := n) (D := d) (by omega) (by omega)
  have lnn := lim_len_mul (a := n) (b := n)
  have ldd := lim_len_mul (a := d) (b := d)
  have lnd := lim_len_mul (a := n) (b := d)
  have s1 := nat_AddL (N := n * n) (D := d * d) (by omega) (by omega)
  have lsq := lim_len_add (a := n * n) (b := d * d) (L := 2) (by omega) (by omega)
  have hdd : 0 < d * d := Nat.mul_pos hd0 hd0
  have hnd : n * d ≤ n * n + d * d := by
    rcases Nat.le_total n d with g | g
    · have := Nat.mul_le_mul_right d g; omega
    · have := Nat.mul_le_mul_left n g; omega
  have o1 := fix_Of (n := n * n) (d := n * n + d * d) (w := w) (by omega) (by omega) (by omega) (by omega)
  have o2 := fix_Of (n := n * d) (d := n * n + d * d) (w := w) (by omega) (by omega) (by omega) (by omega)
  have hb1 : n * n * 2 ^ w / (n * n + d * d) < 2 ^ w := by
    rw [Nat.div_lt_iff_lt_mul (by omega), Nat.mul_comm (2 ^ w)]
    exact Nat.mul_lt_mul_of_pos_right (by omega) (Nat.pow_pos (by omega))
  have ht1 : n * d * 2 ^ w / (n * n + d * d) ≤ 2 ^ w := (Nat.div_le_iff_le_mul (by omega)).2 (by have := Nat.mul_le_mul_right (2 ^ w) hnd; rw [Nat.mul_comm (2 ^ w)]; omega)
  generalize n * n * 2 ^ w / (n * n + d * d) = b1 at *
  generalize n * d * 2 ^ w / (n * n + d * d) = t0 at *
  generalize n * n + d * d = sq at *
  generalize n * n = nn at *
  generalize d * d = dd at *
  generalize n * d = nd at *
  have hP : 0 < 2 ^ w := Nat.pow_pos (by omega)
  have lb := lim_len_p2 (n := b1) (w := w) (by omega) (by omega)
  have lb2 := lim_len_p2 (n := b1 + 1) (w := w) (by omega) (by omega)
  have big : 2 ^ w * 2048 = 2 ^ (w + 11) := by rw [Nat.pow_add]
  have big2 : 2 ^ (w + 11) * 2048 = 2 ^ (w + 22) := by rw [show w + 22 = (w + 11) + 11 by omega, Nat.pow_add 2 (w + 11) 11]
  refine Go.Ev.Fn.intro (fn := Tryz.f246) (body := (Tryz.f246).body.get!) (by kernel_rfl) (by kernel_rfl) (by kernel_rfl) (fun _ => rfl) (Nat.le_of_ble_eq_true (by kernel_rfl)) ?_; unfold Tryz.f246; simp only [Option.get!_some]
  repeat (first | (simp only [go_sem]) | (simp (disch := (first | omega | (simp only [AL, List.length_map]; omega))) only [AR, AL, ifT, ifF, take_all, List.length_cons, List.length_nil, Int.reduceToNat, Int.reducePow, Nat.reducePow]) | (refine wk_intro (by kernel_rfl) ?_) | (refine vf_of (by first | exact m1 | exact m2 | exact s1 | exact o1 | exact m3 | exact o2) ?_))
  refine vp_loop_inv (fun s => s.tmp 2 = .sv (.int .i64 (w : Int)) ∧ s.tmp 6 = .ptr 6 0 0 ∧ s.obj 6 0 = some [.sl 0 [], .sl 0 []] ∧ s.tmp 8 = .ptr 8 0 0 ∧ s.obj 8 0 = some [natV (lim b1), natV (lim (b1 + 1))] ∧ s.tmp 9 = .ptr 9 0 0 ∧ s.tmp 10 = .ptr 10 0 0 ∧
      ∃ f k t1 t2 a1 a2 : Nat, s.tmp 11 = .sv (.int .u64 (k : Int)) ∧ f + k = 1001 ∧ 1 ≤ k ∧ angGo w b1 (b1 + 1) f k t1 t2 a1 a2 = some (A, B) ∧ s.obj 9 0 = some [natV (lim t1), natV (lim t2)] ∧ s.obj 10 0 = some [natV (lim a1), natV (lim a2)] ∧
        t1 ≤ t2 ∧ t2 ≤ 2 ^ w + 2 * k ∧ a1 ≤ a2 ∧ a2 ≤ k * 2 ^ (w + 11))
    (fun s => match s.tmp 11 with | .sv (.int _ i) => 1002 - i.toNat | _ => 0) ⟨rfl, rfl, rfl, rfl, rfl, rfl, rfl, 1000, 1, t0, t0 + 1, t0, t0 + 1, rfl, rfl, by omega, h, rfl, rfl, by omega, by omega, by omega, by omega⟩ ?_
  rintro s ⟨i2, i6, o6, i8, o8, i9, i10, f, k, t1, t2, a1, a2, i11, hfk, hk, hg, o9, o10, g1, g2, g3, g4⟩
  have hk2 : k * 2 ^ (w + 11) ≤ 1001 * 2 ^ (w + 11) := Nat.mul_le_mul_right _ (by omega)
  have lt2 := lim_len_p2 (n := t2) (w := w + 11) (by omega) (by omega)
  have lt1 := lim_len_p2 (n := t1) (w := w + 11) (by omega) (by omega)
  have la2 := lim_len_p2 (n := a2) (w := w + 22) (by omega) (by omega)
  have la1 := lim_len_p2 (n := a1) (w := w + 22) (by omega) (by omega)
  have sm := fix_Small (a := t1) (b := t2) (by omega) (k := 2) (by omega)
  cases f with
  | zero => simp only [angGo] at hg; cases hg
  | succ f =>
    rw [angGo] at hg
    simp only [pin_eq] at hg
    by_cases hs : t2 < 2 ^ 2
    · rw [decide_eq_true hs] at sm
      rw [if_pos (show t2 < 4 from hs)] at hg
      obtain ⟨rfl, rfl⟩ : a1 = A ∧ a2 + 8 = B := by simpa using hg
      have wd := fix_Wider (a := a1) (b := a2) (n := 8) (by omega) (by omega) (by omega)
      clear hg
      repeat (first | (simp only [go_sem, i2, i6, o6, i8, o8, i9, i10, i11, o9, o10, Bool.not_true]) | (simp (disch := (first | omega | (simp only [AL, List.length_map]; omega))) only [AR, AL, ifT, ifF, take_all, List.length_cons, List.length_nil, Int.reduceToNat, Int.reducePow, Nat.reducePow, i2, i6, o6, i8, o8, i9, i10, i11, o9, o10, Bool.not_true]) | (refine wk_intro (by kernel_rfl) ?_) | (refine vf_of (by first | exact sm | exact wd) ?_))
    · rw [decide_eq_false hs] at sm
      rw [if_neg (show ¬ t2 < 4 from hs)] at hg
      have mu := fix_Mul (a := t1) (b := t2) (c := b1) (d := b1 + 1) (w := w) (by omega) (by omega) (by omega) (by omega) (by omega) hw0
      have q1 := nat_Of (2 * k) (by omega)
      have q2 := nat_Of (2 * k + 1) (by omega)
      have l1 : (lim (2 * k)).length ≤ 1 := lim_len_one (by omega)
      have l2 : (lim (2 * k + 1)).length ≤ 1 := lim_len_one (by omega)
      have hx : t2 * (b1 + 1) / 2 ^ w ≤ t2 := (Nat.div_le_iff_le_mul hP).2 (by have := Nat.mul_le_mul_left t2 (show b1 + 1 ≤ 2 ^ w by omega); omega)
      have hy : t1 * b1 / 2 ^ w ≤ t2 * (b1 + 1) / 2 ^ w := Nat.div_le_div_right (Nat.mul_le_mul g1 (by omega))
      generalize t1 * b1 / 2 ^ w = x1 at *
      generalize t2 * (b1 + 1) / 2 ^ w = x2 at *
      have lx2 := lim_len_p2 (n := x2 + 1) (w := w + 11) (by omega) (by omega)
      have lx1 := lim_len_p2 (n := x1) (w := w + 11) (by omega) (by omega)
      have ti := fix_Times (a := x1) (b := x2 + 1) (n := 2 * k) (d := 2 * k + 1) (by omega) (by omega) (by omega) (by omega) (by omega)
      have hz := times_le (x := x2) (k := k)
      have hz2 : x1 * (2 * k) / (2 * k + 1) ≤ (x2 + 1) * (2 * k) / (2 * k + 1) + 1 := Nat.le_succ_of_le (Nat.div_le_div_right (Nat.mul_le_mul_right _ (by omega)))
      generalize x1 * (2 * k) / (2 * k + 1) = u1 at *
      generalize (x2 + 1) * (2 * k) / (2 * k + 1) + 1 = u2 at *
      have lu2 := lim_len_p2 (n := u2) (w := w + 11) (by omega) (by omega)
      have lu1 := lim_len_p2 (n := u1) (w := w + 11) (by omega) (by omega)
      have ad := fix_Add (a := a1) (b := a2) (c := u1) (d := u2) (by omega) (by omega) (by omega) (by omega)
      have e1 : ((2 * k : Nat) : Int) = 2 * (k : Int) := by omega
      have e2 : ((2 * k + 1 : Nat) : Int) = 2 * (k : Int) + 1 := by omega
      rw [e1] at q1
      rw [e2] at q2
      repeat (first | (simp only [go_sem, i2, i6, o6, i8, o8, i9, i10, i11, o9, o10, Bool.not_false]) | (simp (disch := (first | omega | (simp only [AL, List.length_map]; omega))) only [AR, AL, ifT, ifF, take_all, List.length_cons, List.length_nil, Int.reduceToNat, Int.reducePow, Nat.reducePow, i2, i6, o6, i8, o8, i9, i10, i11, o9, o10, Bool.not_false]) | (refine wk_intro (by kernel_rfl) ?_) | (refine vf_of (by first | exact sm | exact mu | exact q1 | exact q2 | exact ti | exact ad) ?_))
      exact ⟨⟨f, k + 1, u1, u2, a1 + u1, a2 + u2, rfl, by omega, by omega, hg, rfl, rfl, by omega, by omega, by omega, by rw [Nat.add_mul, Nat.one_mul]; omega⟩, by omega⟩
theorem fix_Certain1 {p sp lo hi : Nat} {f : FuncId} (hf : Go.Ev.Fn CX f [.int .i64 ((p + sp : Nat) : Int)] (spanV lo hi)) (hlo : (lim lo).length ≤ 1000) (hhi : (lim hi).length ≤ 1000) (hp : p ≤ 10000) (hsp : sp ≤ 1000) (hs0 : 0 < sp) (hc : lo / 2 ^ sp = (hi - 1) / 2 ^ sp) :
    Go.Ev.Fn CX 193 [.int .i64 (p : Int), .int .i64 (sp : Int), .fn f []] (ballR (mkRat ((lo / 2 ^ sp : Nat) : Int) (2 ^ p)) (mkRat ((lo / 2 ^ sp + 1 : Nat) : Int) (2 ^ p))) := by
  have fl := fix_Floor (a := lo) (b := hi) (w := p + sp) (p := p) (by omega) (by omega) (by omega) (by omega)
  rw [Nat.add_sub_cancel_left, decide_eq_true hc] at fl
  have o := fix_One
  have l1 := lim_len1
  have sh := fix_shl (a := 1) (m := p) (by omega) (by omega)
  have lp := lim_len_shl (a := 1) (n := p)
  rw [Nat.one_mul] at sh lp
  have ll := lim_len_mono (Nat.div_le_self lo (2 ^ sp))
  have n1 := fix_Next (a := lo / 2 ^ sp) (by omega)
  have l2 := lim_len_add (a := lo / 2 ^ sp) (b := 1) (L := 1000) (by omega) (by omega)
  have r1 := rat_OfL (s := false) (n := lo / 2 ^ sp) (d := 2 ^ p) (by omega) (by omega)
  have r2 := rat_OfL (s := false) (n := lo / 2 ^ sp + 1) (d := 2 ^ p) (by omega) (by omega)
  rw [show sgn false (lo / 2 ^ sp) = ((lo / 2 ^ sp : Nat) : Int) from rfl] at r1
  rw [show sgn false (lo / 2 ^ sp + 1) = ((lo / 2 ^ sp + 1 : Nat) : Int) from rfl] at r2
  generalize mkRat ((lo / 2 ^ sp : Nat) : Int) (2 ^ p) = q1 at *
  generalize mkRat ((lo / 2 ^ sp + 1 : Nat) : Int) (2 ^ p) = q2 at *
  generalize lo / 2 ^ sp + 1 = a' at *
  generalize lo / 2 ^ sp = a at *
  generalize 2 ^ p = P at *
  rw [show ((p + sp : Nat) : Int) = (p : Int) + (sp : Int) from rfl] at hf fl
  refine Go.Ev.Fn.intro (fn := Tryz.f193) (body := (Tryz.f193).body.get!) (by kernel_rfl) (by kernel_rfl) (by kernel_rfl) (fun _ => rfl) (Nat.le_of_ble_eq_true (by kernel_rfl)) ?_; unfold Tryz.f193; simp only [Option.get!_some]
  repeat (first | (simp only [go_sem]) | (simp (disch := (first | omega | (simp only [AL, List.length_map]; omega))) only [AR, AL, ifT, ifF, take_all, List.length_cons, List.length_nil, Int.reduceToNat, Int.reducePow, Nat.reducePow]) | (refine wk_intro (by kernel_rfl) ?_))
  refine vp_loop_inv (fun s => s.tmp 0 = .sv (.int .i64 (p : Int)) ∧ s.tmp 2 = .sv (.fn f []) ∧ s.tmp 6 = .ptr 6 0 0 ∧ s.obj 6 0 = some [.bool false, .sl 0 [], .sl 0 [], .bool false, .sl 0 [], .sl 0 []] ∧ s.tmp 7 = .sv (.int .i64 ((p : Int) + (sp : Int)))) (fun _ => 0) ⟨rfl, rfl, rfl, rfl, rfl⟩ ?_
  rintro s ⟨i0, i2, i6, o6, i7⟩
  repeat (first | (simp only [go_sem, i0, i2, i6, o6, i7]) | (simp (disch := (first | omega | (simp only [AL, List.length_map]; omega))) only [AR, AL, ifT, ifF, take_all, List.length_cons, List.length_nil, Int.reduceToNat, Int.reducePow, Nat.reducePow, i0, i2, i6, o6, i7]) | (refine wk_intro (by kernel_rfl) ?_) | (refine vf_of (by first | exact hf | exact fl | exact o | exact sh | exact r1 | exact n1 | exact r2) ?_))
theorem arcs_held (p : Int) : Go.Ev.Fn CX 239 [.int .i64 p] (.int .i64 (if p < 0 then 0 else if 512 < p then 512 else p)) := by
  by_cases h1 : p < 0
  · rw [if_pos h1]
    have e1 : (if (0 : Int) > p then (0 : Int) else p) = 0 := if_pos (by omega)
    refine Go.Ev.Fn.intro (fn := Tryz.f239) (body := (Tryz.f239).body.get!) (by kernel_rfl) (by kernel_rfl) (by kernel_rfl) (fun _ => rfl) (Nat.le_of_ble_eq_true (by kernel_rfl)) ?_; unfold Tryz.f239; simp only [Option.get!_some]
    repeat (first | (simp only [go_sem, e1]) | (simp (disch := (first | omega | (simp only [AL, List.length_map]; omega))) only [AR, AL, ifT, ifF, take_all, List.length_cons, List.length_nil, Int.reduceToNat, Int.reducePow, Nat.reducePow, e1]) | (refine wk_intro (by kernel_rfl) ?_))
  · rw [if_neg h1]
    have e1 : (if (0 : Int) > p then (0 : Int) else p) = p := if_neg (by omega)
    by_cases h2 : 512 < p
    · rw [if_pos h2]
      have e2 : (if (512 : Int) < p then (512 : Int) else p) = 512 := if_pos h2
      refine Go.Ev.Fn.intro (fn := Tryz.f239) (body := (Tryz.f239).body.get!) (by kernel_rfl) (by kernel_rfl) (by kernel_rfl) (fun _ => rfl) (Nat.le_of_ble_eq_true (by kernel_rfl)) ?_; unfold Tryz.f239; simp only [Option.get!_some]
      repeat (first | (simp only [go_sem, e1, e2]) | (simp (disch := (first | omega | (simp only [AL, List.length_map]; omega))) only [AR, AL, ifT, ifF, take_all, List.length_cons, List.length_nil, Int.reduceToNat, Int.reducePow, Nat.reducePow, e1, e2]) | (refine wk_intro (by kernel_rfl) ?_))
    · rw [if_neg h2]
      have e2 : (if (512 : Int) < p then (512 : Int) else p) = p := if_neg h2
      refine Go.Ev.Fn.intro (fn := Tryz.f239) (body := (Tryz.f239).body.get!) (by kernel_rfl) (by kernel_rfl) (by kernel_rfl) (fun _ => rfl) (Nat.le_of_ble_eq_true (by kernel_rfl)) ?_; unfold Tryz.f239; simp only [Option.get!_some]
      repeat (first | (simp only [go_sem, e1, e2]) | (simp (disch := (first | omega | (simp only [AL, List.length_map]; omega))) only [AR, AL, ifT, ifF, take_all, List.length_cons, List.length_nil, Int.reduceToNat, Int.reducePow, Nat.reducePow, e1, e2]) | (refine wk_intro (by kernel_rfl) ?_))
theorem angGo_bd {w b1 b2 T : Nat} (hb : b1 ≤ b2) (hb2 : b2 ≤ 2 ^ w) : ∀ (f k t1 t2 a1 a2 : Nat) {A B : Nat}, angGo w b1 b2 f k t1 t2 a1 a2 = some (A, B) → t1 ≤ t2 → t2 + 2 * f ≤ T → a1 ≤ a2 → A ≤ B ∧ B ≤ a2 + f * T + 8 := by
  intro f
  induction f with
  | zero => intro k t1 t2 a1 a2 A B h; simp only [angGo] at h; cases h
  | succ f ih =>
    intro k t1 t2 a1 a2 A B h ht hT ha
    have hP : 0 < 2 ^ w := Nat.pow_pos (by omega)
    rw [angGo] at h
    simp only [pin_eq] at h
    rw [Nat.add_mul, Nat.one_mul]
    by_cases hs : t2 < 4
    · rw [if_pos hs] at h
      obtain ⟨rfl, rfl⟩ : a1 = A ∧ a2 + 8 = B := by simpa using h
      omega
    · rw [if_neg hs] at h
      have hx : t2 * b2 / 2 ^ w ≤ t2 := (Nat.div_le_iff_le_mul hP).2 (by have := Nat.mul_le_mul_left t2 hb2; omega)
      have hy : t1 * b1 / 2 ^ w ≤ t2 * b2 / 2 ^ w := Nat.div_le_div_right (Nat.mul_le_mul ht hb)
      have hz := times_le (x := t2 * b2 / 2 ^ w) (k := k)
      have hz2 : t1 * b1 / 2 ^ w * (2 * k) / (2 * k + 1) ≤ (t2 * b2 / 2 ^ w + 1) * (2 * k) / (2 * k + 1) + 1 := Nat.le_succ_of_le (Nat.div_le_div_right (Nat.mul_le_mul_right _ (by omega)))
      generalize t1 * b1 / 2 ^ w * (2 * k) / (2 * k + 1) = u1 at *
      generalize (t2 * b2 / 2 ^ w + 1) * (2 * k) / (2 * k + 1) + 1 = u2 at *
      have := ih _ _ _ _ _ h hz2 (by omega) (by omega)
      omega
theorem angF_bd {n d w A B : Nat} (hn0 : 0 < n) (hnd : n ≤ d) (hw : w ≤ 900) (hw0 : 11 ≤ w) (h : angF n d w = some (A, B)) : (lim A).length ≤ 40 ∧ (lim B).length ≤ 40 := by
  unfold angF at h
  rw [pin_eq, pin_eq] at h
  have hP : 0 < 2 ^ w := Nat.pow_pos (by omega)
  have h1 := Nat.mul_le_mul hnd hnd
  have h2 : n * d ≤ d * d := Nat.mul_le_mul_right _ hnd
  have h3 : 0 < n * n := Nat.mul_pos hn0 hn0
  have hb1 : n * n * 2 ^ w / (n * n + d * d) < 2 ^ w := by
    rw [Nat.div_lt_iff_lt_mul (by omega), Nat.mul_comm (2 ^ w)]
    exact Nat.mul_lt_mul_of_pos_right (by omega) hP
  have ht1 : n * d * 2 ^ w / (n * n + d * d) ≤ 2 ^ w := (Nat.div_le_iff_le_mul (by omega)).2 (by have := Nat.mul_le_mul_right (2 ^ w) (show n * d ≤ n * n + d * d by omega); rw [Nat.mul_comm (2 ^ w)]; omega)
  have hb := angGo_bd (T := 2 ^ w + 2001) (Nat.le_succ _) (by omega) _ _ _ _ _ _ h (by omega) (by omega) (by omega)
  have hbig : 2 ^ w * 4096 = 2 ^ (w + 12) := by rw [Nat.pow_add]
  have h11 : 2 ^ 11 ≤ 2 ^ w := Nat.pow_le_pow_right (by omega) hw0
  exact ⟨lim_len_p2 (w := w + 12) (by omega) (by omega), lim_len_p2 (w := w + 12) (by omega) (by omega)⟩
theorem arcs_pi {w A B : Nat} (hw : w ≤ 900) (hw0 : 11 ≤ w) (h : piF w = some (A, B)) : Go.Ev.Fn CX 240 [.int .i64 (w : Int)] (spanV A B) ∧ (lim A).length ≤ 100 ∧ (lim B).length ≤ 100 := by
  unfold piF at h
  split at h
  · rename_i a1 a2 b1 b2 h1 h2
    obtain ⟨rfl, rfl⟩ : a1 * 16 - (b2 * 4 + 1) = A ∧ a2 * 16 + 1 - b1 * 4 + 1 = B := by simpa using h
    clear h
    have an1 := arcs_angle (n := 1) (d := 5) (by omega) (by omega) (by omega) hw (by omega) h1
    have an2 := arcs_angle (n := 1) (d := 239) (by omega) (by omega) (by omega) hw (by omega) h2
    obtain ⟨g1, g2⟩ := angF_bd (by omega) (by omega) (by omega) hw0 h1
    obtain ⟨g3, g4⟩ := angF_bd (by omega) (by omega) (by omega) hw0 h2
    have o := fix_One
    have q5 := nat_Of 5 (by omega)
    have q239 := nat_Of 239 (by omega)
    have q16 := nat_Of 16 (by omega)
    have q4 := nat_Of 4 (by omega)
    have l16 : (lim 16).length ≤ 1 := lim_len_one (by decide)
    have l4 : (lim 4).length ≤ 1 := lim_len_one (by decide)
    have l1 := lim_len1
    have t1 := fix_Times (a := a1) (b := a2) (n := 16) (d := 1) (by omega) (by omega) (by omega) (by omega) (by omega)
    have t2 := fix_Times (a := b1) (b := b2) (n := 4) (d := 1) (by omega) (by omega) (by omega) (by omega) (by omega)
    rw [Nat.div_one, Nat.div_one] at t1 t2
    have e1 := lim_len_mul (a := a1) (b := 16)
    have e2 := lim_len_mul (a := a2) (b := 16)
    have e3 := lim_len_mul (a := b1) (b := 4)
    have e4 := lim_len_mul (a := b2) (b := 4)
    have e5 := lim_len_add (a := a2 * 16) (b := 1) (L := 50) (by omega) (by omega)
    have e6 := lim_len_add (a := b2 * 4) (b := 1) (L := 50) (by omega) (by omega)
    have sb := fix_Sub (a := a1 * 16) (b := a2 * 16 + 1) (c := b1 * 4) (d := b2 * 4 + 1) (by omega) (by omega) (by omega) (by omega)
    have e7 := lim_len_mono (Nat.sub_le (a1 * 16) (b2 * 4 + 1))
    have e8 := lim_len_mono (Nat.sub_le (a2 * 16 + 1) (b1 * 4))
    have e9 := lim_len_add (a := a2 * 16 + 1 - b1 * 4) (b := 1) (L := 60) (by omega) (by omega)
    refine ⟨?_, by omega, by omega⟩
    generalize a1 * 16 - (b2 * 4 + 1) = x1 at *
    generalize a2 * 16 + 1 - b1 * 4 + 1 = x2 at *
    generalize a2 * 16 + 1 = x3 at *
    generalize b2 * 4 + 1 = x4 at *
    generalize a1 * 16 = x5 at *
    generalize b1 * 4 = x6 at *
    refine Go.Ev.Fn.intro (fn := Tryz.f240) (body := (Tryz.f240).body.get!) (by kernel_rfl) (by kernel_rfl) (by kernel_rfl) (fun _ => rfl) (Nat.le_of_ble_eq_true (by kernel_rfl)) ?_; unfold Tryz.f240; simp only [Option.get!_some]
    repeat (first | (simp only [go_sem]) | (simp (disch := (first | omega | (simp only [AL, List.length_map]; omega))) only [AR, AL, ifT, ifF, take_all, List.length_cons, List.length_nil, Int.reduceToNat, Int.reducePow, Nat.reducePow]) | (refine wk_intro (by kernel_rfl) ?_) | (refine vp_draw (id := 2) (l := [14, 15, 18, 19]) (by kernel_rfl) ?_) | (refine vf_of (by first | exact o | exact q5 | exact an1 | exact q239 | exact an2 | exact q16 | exact t1 | exact q4 | exact t2 | exact sb) ?_))
  · cases h
theorem allFrom_at {f : Nat → Bool} : ∀ {n k : Nat}, allFrom f n k = true → ∀ i, k ≤ i → i < k + n → f i = true := by
  intro n
  induction n with
  | zero => intro k _ i h1 h2; omega
  | succ n ih =>
    intro k h i h1 h2
    rw [allFrom, Bool.and_eq_true] at h
    rcases Nat.eq_or_lt_of_le h1 with h3 | h3
    · rw [← h3]; exact h.1
    · exact ih h.2 i h3 (by omega)
end Go.Proofs.YtecjelnpmcnbaaaGreat
namespace Go.Proofs.YtecjelnpmcnbaaaGreat
open Go.Ev
theorem four_mul_le (x y : Nat) : 4 * (x * y) ≤ (x + y) * (x + y) := by
  rcases Nat.le_total x y with h | h
  · obtain ⟨k, rfl⟩ := Nat.exists_eq_add_of_le h
    have : (x + (x + k)) * (x + (x + k)) = 4 * (x * (x + k)) + k * k := by grind
    omega
  · obtain ⟨k, rfl⟩ := Nat.exists_eq_add_of_le h
    have : (y + k + y) * (y + k + y) = 4 * ((y + k) * y) + k * k := by grind
    omega
theorem newton_up {a x : Nat} (hx : 0 < x) : a < ((x + a / x) / 2 + 1) * ((x + a / x) / 2 + 1) := by
  have h1 : a < x * (a / x + 1) := by
    have := Nat.div_add_mod a x
    have := Nat.mod_lt a hx
    rw [Nat.mul_add, Nat.mul_one]; omega
  have h2 := four_mul_le x (a / x + 1)
  generalize a / x = q at *
  have h3 : x + (q + 1) ≤ 2 * ((x + q) / 2 + 1) := by omega
  have h4 := Nat.mul_le_mul h3 h3
  generalize (x + q) / 2 + 1 = m at *
  have h5 : 2 * m * (2 * m) = 4 * (m * m) := by grind
  omega
theorem newton_stop {a x : Nat} (hx : 0 < x) (h : x ≤ (x + a / x) / 2) : x * x ≤ a := by
  have h1 : x ≤ a / x := by omega
  have h2 := Nat.mul_le_mul_left x h1
  have h3 := Nat.mul_div_le a x
  omega
def vN (v : SV) : Nat := match decV v with
  | some xs => wth xs
  | none => 0
theorem vN_lim {x : Nat} (h : (lim x).length ≤ 1073741824) : vN (natV (lim x)) = x := by
  unfold vN
  rw [decV_nat (okL_lim x) h]
  exact wth_lim x
theorem lim_p32 (n : Nat) : lim (4294967296 ^ n) = List.replicate n 0 ++ [1] := by
  have h := lim_unique (xs := List.replicate n 0 ++ [1]) (okL_append.2 ⟨okL_replicate _, by simp [okL]⟩) (.inr ⟨_, 1, rfl, by decide⟩)
  rw [wth_append, wth_replicate, List.length_replicate, Nat.zero_add, show wth [1] = 1 from rfl, Nat.mul_one] at h
  exact h.symm
theorem set_last (n : Nat) : ((List.replicate (n + 1) 0).set n 1 : List Nat) = List.replicate n 0 ++ [1] := by
  rw [List.replicate_succ', List.set_append_right _ _ (by simp), List.length_replicate, Nat.sub_self]
  rfl
set_option maxHeartbeats 1000000 in
theorem root_Int {a : Nat} (h : (lim a).length ≤ 1000) : Go.Ev.Fn CX 245 [natV (lim a)] (natV (lim (rtN a))) := by
  have b := nat_Bits (N := a) (by omega)
  have hb : a < 2 ^ blen a := blen_iff.1 (Nat.le_refl _)
  by_cases h0 : a = 0
  · subst h0
    have e : rtN 0 = 0 := (rtN_eq (a := 0) (r := 0) (by omega) (by omega)).symm
    rw [e, lim_zero]
    rw [lim_zero, show blen 0 = 0 from rfl] at b
    refine Go.Ev.Fn.intro (fn := Tryz.f245) (body := (Tryz.f245).body.get!) (by kernel_rfl) (by kernel_rfl) (by kernel_rfl) (fun _ => rfl) (Nat.le_of_ble_eq_true (by kernel_rfl)) ?_; unfold Tryz.f245; simp only [Option.get!_some]
    repeat (first | (simp only [go_sem]) | (simp (disch := (first | omega | (simp only [AL, List.length_map]; omega))) only [AR, AL, ifT, ifF, take_all, List.length_cons, List.length_nil, Int.reduceToNat, Int.reducePow, Nat.reducePow]) | (refine wk_intro (by kernel_rfl) ?_) | (refine vf_of (by first | exact b) ?_))
    rfl
  have hB0 : blen a ≠ 0 := fun e => by rw [e] at hb; omega
  have hBl : blen a ≤ 32000 := by
    obtain ⟨K, hK⟩ : ∃ K : Nat, K = 32000 := ⟨_, rfl⟩
    rw [← hK]
    refine blen_iff.2 (Nat.lt_of_lt_of_le lim_len_pow ?_)
    rw [show (4294967296 : Nat) = 2 ^ 32 from rfl, ← Nat.pow_mul]
    exact Nat.pow_le_pow_right (by omega) (by omega)
  generalize blen a = B at *
  have ha0 : a < 4294967296 ^ (B / 64 + 1) * 4294967296 ^ (B / 64 + 1) := by
    refine Nat.lt_of_lt_of_le hb ?_
    rw [← Nat.pow_add, show (4294967296 : Nat) = 2 ^ 32 from rfl, ← Nat.pow_mul]
    exact Nat.pow_le_pow_right (by omega) (by omega)
  have l0 := lim_p32 (B / 64 + 1)
  have hn : B / 64 + 1 ≤ 501 := by omega
  have tq : (B : Int).tdiv 64 = ((B / 64 : Nat) : Int) := _root_.id rfl
  have sl := set_last (B / 64 + 1)
  rw [← l0] at sl
  have x0pos : 0 < 4294967296 ^ (B / 64 + 1) := Nat.pow_pos (by omega)
  have ll : (lim (4294967296 ^ (B / 64 + 1))).length = B / 64 + 2 := by rw [l0]; simp
  have wp := wth_lim (4294967296 ^ (B / 64 + 1))
  generalize 4294967296 ^ (B / 64 + 1) = x0 at *
  -- one round
  have round : ∀ x, 0 < x → (lim x).length ≤ 1000 → Go.Ev.Fn CX 112 [natV (lim a), natV (lim x)] (.tup [natV (lim (a / x)), natV (lim (a % x)), .bool true]) ∧ Go.Ev.Fn CX 106 [natV (lim x), natV (lim (a / x))] (natV (lim (x + a / x))) ∧
      Go.Ev.Fn CX 67 [natV (lim (x + a / x)), .int .i64 (-1)] (natV (lim ((x + a / x) / 2))) ∧ Go.Ev.Fn CX 147 [natV (lim ((x + a / x) / 2)), natV (lim x)] (.int .i64 (cmpN ((x + a / x) / 2) x)) := by
    intro x hx hl
    have l1 := lim_len_mono (Nat.div_le_self a x)
    have l2 := lim_len_add (a := x) (b := a / x) (L := 1000) (by omega) (by omega)
    have l3 := lim_len_mono (Nat.div_le_self (x + a / x) 2)
    have s := nat_shr (N := x + a / x) (m := 1) (by omega) (by omega) (by omega)
    rw [Nat.pow_one] at s
    exact ⟨nat_DivL (by omega) (by omega) (by omega), nat_AddL (by omega) (by omega), s, nat_CmpL (by omega) (by omega)⟩
  have tr : ∀ x, (lim x).length ≤ 1000 → Go.Ev.Fn CX 110 [natV (lim x)] (natV (lim x)) := by
    intro x hl
    have := nat_Trim (lim x) (okL_lim x) (by omega)
    rwa [wth_lim] at this
  have tn : (((B / 64 : Nat) : Int) + 2).toNat = B / 64 + 2 := by omega
  refine Go.Ev.Fn.intro (fn := Tryz.f245) (body := (Tryz.f245).body.get!) (by kernel_rfl) (by kernel_rfl) (by kernel_rfl) (fun _ => rfl) (Nat.le_of_ble_eq_true (by kernel_rfl)) ?_; unfold Tryz.f245; simp only [Option.get!_some]
  repeat (first | (simp only [go_sem, tq, tn]) | (simp (disch := (first | omega | (simp only [AL, List.length_map]; omega))) only [AR, AL, ifT, ifF, take_all, List.length_cons, List.length_nil, Int.reduceToNat, Int.reducePow, Nat.reducePow, tq, tn]) | (refine wk_intro (by kernel_rfl) ?_) | (refine vf_of (by first | exact b) ?_))
  have hstep : ∀ x, 0 < x → a < (x + 1) * (x + 1) → ∀ y, y = (x + a / x) / 2 → ¬ x ≤ y → 0 < y ∧ a < (y + 1) * (y + 1) ∧ y < x := by
    rintro x hx - y rfl hxy
    have := newton_up (a := a) hx
    refine ⟨?_, this, by omega⟩
    rcases Nat.eq_zero_or_pos ((x + a / x) / 2) with e | e
    · rw [e] at this; omega
    · exact e
  refine vp_loop_inv (fun s => s.tmp 0 = .sv (natV (lim a)) ∧ ∃ x : Nat, 0 < x ∧ (lim x).length ≤ 600 ∧ x ≤ x0 ∧ a < (x + 1) * (x + 1) ∧ (s.tmp 3 = .sv (natV (lim x)) ∨ x = x0 ∧ s.tmp 3 = .ref 15 0 1 0 (B / 64 + 2) ∧ s.obj 15 0 = some ((lim x0).map limb)))
    (fun s => match s.tmp 3 with | .sv v => vN v | _ => x0 + 1) ?_ ?_
  · refine ⟨rfl, x0, x0pos, by omega, Nat.le_refl _, by have := Nat.mul_le_mul (show x0 ≤ x0 + 1 by omega) (show x0 ≤ x0 + 1 by omega); omega, .inr ⟨rfl, by first | rfl | (rw [← tn]; rfl), ?_⟩⟩
    refine (?_ : some (List.map limb (List.take (B / 64 + 2 - 1) (List.replicate (B / 64 + 2) 0)) ++ [SV.int IntKind.u32 1] ++ List.map limb (List.drop (B / 64 + 2 - 1 + 1) (List.replicate (B / 64 + 2) 0))) = _)
    rw [l0, List.take_replicate, List.drop_replicate, Nat.min_eq_left (by omega), show B / 64 + 2 - (B / 64 + 2 - 1 + 1) = 0 by omega, show B / 64 + 2 - 1 = B / 64 + 1 by omega, List.map_append, List.replicate_zero, List.map_nil, List.append_nil]
    rfl
  rintro s ⟨i0, x, hx, lx, hxx, hax, i3⟩
  obtain ⟨r1, r2, r3, r4⟩ := round x hx (by omega)
  have hst := hstep x hx hax _ rfl
  have e1 : decide (cmpN ((x + a / x) / 2) x ≥ 0) = decide (x ≤ (x + a / x) / 2) := decide_eq_decide.2 (by unfold cmpN; split <;> (try split) <;> omega)
  have hstop := newton_stop (a := a) (x := x) hx
  have t1 := tr x (by omega)
  have l1 := lim_len_mono (Nat.div_le_self (x + a / x) 2)
  generalize (x + a / x) / 2 = y at *
  generalize x + a / x = u at *
  generalize a / x = q at *
  generalize cmpN y x = z at *
  rcases i3 with i3 | ⟨rfl, i3, o3⟩
  · by_cases hle : x ≤ y
    · rw [decide_eq_true hle] at e1
      obtain rfl := rtN_eq (hstop hle) hax
      repeat (first | (simp only [go_sem, i0, i3, e1]) | (simp (disch := (first | omega | (simp only [AL, List.length_map]; omega))) only [AR, AL, ifT, ifF, take_all, List.length_cons, List.length_nil, Int.reduceToNat, Int.reducePow, Nat.reducePow, i0, i3, e1]) | (refine wk_intro (by kernel_rfl) ?_) | (refine vf_of (by first | exact r1 | exact r2 | exact r3 | exact r4 | exact t1) ?_))
    · rw [decide_eq_false hle] at e1
      obtain ⟨y1, y2, y3⟩ := hst hle
      repeat (first | (simp only [go_sem, i0, i3, e1]) | (simp (disch := (first | omega | (simp only [AL, List.length_map]; omega))) only [AR, AL, ifT, ifF, take_all, List.length_cons, List.length_nil, Int.reduceToNat, Int.reducePow, Nat.reducePow, i0, i3, e1]) | (refine wk_intro (by kernel_rfl) ?_) | (refine vf_of (by first | exact r1 | exact r2 | exact r3 | exact r4) ?_))
      exact ⟨⟨y, y1, Nat.le_trans (lim_len_mono (Nat.le_of_lt y3)) lx, by omega, y2, .inl rfl⟩, by rw [vN_lim (by have := lim_len_mono (Nat.le_of_lt y3); omega), vN_lim (by omega)]; exact y3⟩
  · have hle : ¬ x ≤ y := fun g => by have := hstop g; have := ha0; omega
    rw [decide_eq_false hle] at e1
    obtain ⟨y1, y2, y3⟩ := hst hle
    have f1 : Go.Ev.Fn CX 112 [natV (lim a), .sl (B / 64 + 2) ((lim x).map limb)] (.tup [natV (lim q), natV (lim (a % x)), .bool true]) := by rw [← ll]; exact r1
    have f2 : Go.Ev.Fn CX 106 [.sl (B / 64 + 2) ((lim x).map limb), natV (lim q)] (natV (lim u)) := by rw [← ll]; exact r2
    have f4 : Go.Ev.Fn CX 147 [natV (lim y), .sl (B / 64 + 2) ((lim x).map limb)] (.int .i64 z) := by rw [← ll]; exact r4
    have hlm : ((lim x).map limb).length = B / 64 + 2 := by rw [List.length_map, ll]
    have htk : ((lim x).map limb).take (B / 64 + 2) = (lim x).map limb := List.take_of_length_le (by omega)
    generalize ((lim x).map limb) = cs at *
    repeat (first | (simp only [go_sem, i0, i3, o3, htk, hlm, List.drop_zero, N0, Nat.mul_one, e1]) | (simp (disch := (first | omega | (simp only [AL, List.length_map]; omega))) only [AR, AL, ifT, ifF, take_all, List.length_cons, List.length_nil, Int.reduceToNat, Int.reducePow, Nat.reducePow, i0, i3, o3, htk, hlm, List.drop_zero, N0, Nat.mul_one, e1]) | (refine wk_intro (by kernel_rfl) ?_) | (refine vf_of (by first | exact f1 | exact f2 | exact r3 | exact f4) ?_))
    exact ⟨⟨y, y1, Nat.le_trans (lim_len_mono (Nat.le_of_lt y3)) lx, by omega, y2, .inl rfl⟩, by rw [vN_lim (by have := lim_len_mono (Nat.le_of_lt y3); omega)]; omega⟩
theorem root_whole {a : Nat} (h : (lim a).length ≤ 1000) : Go.Ev.Fn CX 250 [natV (lim a)] (.tup [natV (lim (rtN a)), .bool (decide (rtN a * rtN a = a))]) := by
  have r := root_Int h
  have l := lim_len_mono (rtN_self a)
  have m := nat_MulL (N := rtN a) (D := rtN a) (by omega) (by omega)
  have l2 := lim_len_mono (rtN_le a)
  have c := nat_CmpL (N := rtN a * rtN a) (D := a) (by omega) (by omega)
  have e : (cmpN (rtN a * rtN a) a == 0) = decide (rtN a * rtN a = a) := by
    rw [show (cmpN (rtN a * rtN a) a == 0) = decide (cmpN (rtN a * rtN a) a = 0) from by by_cases h : cmpN (rtN a * rtN a) a = 0 <;> simp [h]]
    exact decide_eq_decide.2 (by unfold cmpN; split <;> (try split) <;> omega)
  rw [← e]
  generalize cmpN (rtN a * rtN a) a = z at *
  generalize rtN a * rtN a = y at *
  generalize rtN a = x at *
  refine Go.Ev.Fn.intro (fn := Tryz.f250) (body := (Tryz.f250).body.get!) (by kernel_rfl) (by kernel_rfl) (by kernel_rfl) (fun _ => rfl) (Nat.le_of_ble_eq_true (by kernel_rfl)) ?_; unfold Tryz.f250; simp only [Option.get!_some]
  repeat (first | (simp only [go_sem]) | (simp (disch := (first | omega | (simp only [AL, List.length_map]; omega))) only [AR, AL, ifT, ifF, take_all, List.length_cons, List.length_nil, Int.reduceToNat, Int.reducePow, Nat.reducePow]) | (refine wk_intro (by kernel_rfl) ?_) | (refine vf_of (by first | exact r | exact m | exact c) ?_))
theorem szR_nat {n d L : Nat} (hn : (lim n).length ≤ L) (hd : (lim d).length ≤ L) (hL : 1 ≤ L) : szR (mkRat (n : Int) d) L := szR_mk (s := false) hn hd hL
theorem natAbs_num {q : Rat} (h : 0 ≤ q) : (q.num.natAbs : Int) = q.num := Int.natAbs_of_nonneg (Rat.num_nonneg.2 h)
theorem mk_mulP (a : Int) {b : Nat} (hb : 0 < b) : mkRat a b * (b : Rat) = (a : Rat) := by
  rw [Rat.mkRat_eq_div]
  refine Rat.div_mul_cancel ?_
  have : (0 : Rat) < (b : Rat) := by exact_mod_cast hb
  grind
theorem num_den (q : Rat) : q * (q.den : Rat) = (q.num : Rat) := by
  have h := mk_mulP q.num q.den_pos
  rwa [Rat.mkRat_self] at h
theorem root_Square {v : SV} {q : Rat} {L : Nat} (hv : RatA v q L) (hq : 0 ≤ q) (hL1 : 1 ≤ L) (hL : L ≤ 1000) :
    Go.Ev.Fn CX 244 [v] (if rtN q.num.natAbs * rtN q.num.natAbs = q.num.natAbs ∧ rtN q.den * rtN q.den = q.den then .tup [rv (mkRat (rtN q.num.natAbs : Int) (rtN q.den)), .bool true] else .tup [rv 0, .bool false]) := by
  have n1 := rat_Norm hv (by omega)
  obtain ⟨z1, z2⟩ := szR_of hv hL1
  have w1 := root_whole (a := q.num.natAbs) (by omega)
  have w2 := root_whole (a := q.den) (by omega)
  have l1 := lim_len_mono (rtN_self q.num.natAbs)
  have l2 := lim_len_mono (rtN_self q.den)
  have o := rat_OfL (s := false) (n := rtN q.num.natAbs) (d := rtN q.den) (by omega) (by omega)
  rw [show sgn false (rtN q.num.natAbs) = (rtN q.num.natAbs : Int) from rfl] at o
  have r0 := rat_Int 0 (by omega)
  rw [show ((0 : Int) : Rat) = 0 from rfl] at r0
  have hs : decide (q.num < 0) = false := decide_eq_false (by have := Rat.num_nonneg.2 hq; omega)
  obtain ⟨s, n, d, rfl, -⟩ := hv
  generalize mkRat (rtN q.num.natAbs : Int) (rtN q.den) = r at *
  by_cases h1 : rtN q.num.natAbs * rtN q.num.natAbs = q.num.natAbs
  · rw [decide_eq_true h1] at w1
    by_cases h2 : rtN q.den * rtN q.den = q.den
    · rw [decide_eq_true h2] at w2
      rw [if_pos ⟨h1, h2⟩]
      clear h1 h2
      generalize rtN q.num.natAbs = x at *
      generalize rtN q.den = y at *
      refine Go.Ev.Fn.intro (fn := Tryz.f244) (body := (Tryz.f244).body.get!) (by kernel_rfl) (by kernel_rfl) (by kernel_rfl) (fun _ => rfl) (Nat.le_of_ble_eq_true (by kernel_rfl)) ?_; unfold Tryz.f244; simp only [Option.get!_some]
      repeat (first | (simp only [go_sem, hs, Bool.not_true]) | (simp (disch := (first | omega | (simp only [AL, List.length_map]; omega))) only [AR, AL, ifT, ifF, take_all, List.length_cons, List.length_nil, Int.reduceToNat, Int.reducePow, Nat.reducePow, hs, Bool.not_true]) | (refine wk_intro (by kernel_rfl) ?_) | (refine vf_of (by first | exact n1 | exact w1 | exact w2 | exact o) ?_))
    · rw [decide_eq_false h2] at w2
      rw [if_neg (fun h => h2 h.2)]
      clear h1 h2
      generalize rtN q.num.natAbs = x at *
      generalize rtN q.den = y at *
      refine Go.Ev.Fn.intro (fn := Tryz.f244) (body := (Tryz.f244).body.get!) (by kernel_rfl) (by kernel_rfl) (by kernel_rfl) (fun _ => rfl) (Nat.le_of_ble_eq_true (by kernel_rfl)) ?_; unfold Tryz.f244; simp only [Option.get!_some]
      repeat (first | (simp only [go_sem, hs, Bool.not_true, Bool.not_false]) | (simp (disch := (first | omega | (simp only [AL, List.length_map]; omega))) only [AR, AL, ifT, ifF, take_all, List.length_cons, List.length_nil, Int.reduceToNat, Int.reducePow, Nat.reducePow, hs, Bool.not_true, Bool.not_false]) | (refine wk_intro (by kernel_rfl) ?_) | (refine vf_of (by first | exact n1 | exact w1 | exact w2 | exact r0) ?_))
  · rw [decide_eq_false h1] at w1
    rw [if_neg (fun h => h1 h.1)]
    clear h1
    generalize rtN q.num.natAbs = x at *
    generalize hz : decide (rtN q.den * rtN q.den = q.den) = z at *
    generalize rtN q.den = y at *
    refine Go.Ev.Fn.intro (fn := Tryz.f244) (body := (Tryz.f244).body.get!) (by kernel_rfl) (by kernel_rfl) (by kernel_rfl) (fun _ => rfl) (Nat.le_of_ble_eq_true (by kernel_rfl)) ?_; unfold Tryz.f244; simp only [Option.get!_some]
    repeat (first | (simp only [go_sem, hs, Bool.not_true, Bool.not_false]) | (simp (disch := (first | omega | (simp only [AL, List.length_map]; omega))) only [AR, AL, ifT, ifF, take_all, List.length_cons, List.length_nil, Int.reduceToNat, Int.reducePow, Nat.reducePow, hs, Bool.not_true, Bool.not_false]) | (refine wk_intro (by kernel_rfl) ?_) | (refine vf_of (by first | exact n1 | exact w1 | exact w2 | exact r0) ?_))
theorem nn_mul {a b : Nat} : ((a * b : Nat) : Rat) = (a : Rat) * (b : Rat) := by exact_mod_cast rfl
theorem nat_le_rat {a b : Nat} (h : a ≤ b) : (a : Rat) ≤ (b : Rat) := by exact_mod_cast h
theorem root_Sqrt {v : SV} {q : Rat} {L p : Nat} (hv : RatA v q L) (hq : 0 ≤ q) (hL1 : 1 ≤ L) (hL : L ≤ 300) (hp : p ≤ 512) :
    ∃ lo hi : Rat, Go.Ev.Fn CX 238 [v, .int .i64 (p : Int)] (.tup [ballR lo hi, .bool true]) ∧ 0 ≤ lo ∧ lo ≤ hi ∧ lo * lo ≤ q ∧ q ≤ hi * hi ∧ (hi - lo) * p2 p ≤ 1 ∧ szR lo (L + 40) ∧ szR hi (L + 40) := by
  have n1 := rat_Norm hv (by omega)
  obtain ⟨z1, z2⟩ := szR_of hv hL1
  have sq := root_Square (RatA_rv ⟨z1, z2⟩) hq hL1 (by omega)
  have l1 := lim_len_mono (rtN_self q.num.natAbs)
  have l2 := lim_len_mono (rtN_self q.den)
  have hs : decide (q.num < 0) = false := decide_eq_false (by have := Rat.num_nonneg.2 hq; omega)
  have e1 : (if (0 : Int) > (p : Int) then (0 : Int) else (p : Int)) = (p : Int) := if_neg (by omega)
  have e2 : (if (512 : Int) < (p : Int) then (512 : Int) else (p : Int)) = (p : Int) := if_neg (by omega)
  have qn := num_den q
  have qa : ((q.num.natAbs : Nat) : Rat) = (q.num : Rat) := by
    rw [← natAbs_num hq]; rfl
  have D := q.den_pos
  have DR : (0 : Rat) < (q.den : Rat) := by exact_mod_cast D
  have erv : rv q = ratV false (lim q.num.natAbs) (lim q.den) := by show ratV (decide (q.num < 0)) _ _ = _; rw [hs]
  rw [erv] at n1 sq
  by_cases h : rtN q.num.natAbs * rtN q.num.natAbs = q.num.natAbs ∧ rtN q.den * rtN q.den = q.den
  · rw [if_pos h] at sq
    have hd0 : 0 < rtN q.den := by
      rcases Nat.eq_zero_or_pos (rtN q.den) with e | e
      · have := h.2; rw [e] at this; omega
      · exact e
    have mm := mk_mulP (rtN q.num.natAbs : Int) hd0
    have YR : (0 : Rat) < (rtN q.den : Rat) := by exact_mod_cast hd0
    have x2 : ((rtN q.num.natAbs : Nat) : Rat) * ((rtN q.num.natAbs : Nat) : Rat) = (q.num : Rat) := by rw [← nn_mul, h.1, qa]
    have y2 : ((rtN q.den : Nat) : Rat) * ((rtN q.den : Nat) : Rat) = (q.den : Rat) := by rw [← nn_mul, h.2]
    have x0 := nat_nonneg (rtN q.num.natAbs)
    have mm' : mkRat (rtN q.num.natAbs : Int) (rtN q.den) * (rtN q.den : Rat) = ((rtN q.num.natAbs : Nat) : Rat) := mm
    have r0 : (0 : Rat) ≤ mkRat (rtN q.num.natAbs : Int) (rtN q.den) := le_by YR (by rw [mm', Rat.zero_mul]; exact x0)
    have rr : mkRat (rtN q.num.natAbs : Int) (rtN q.den) * mkRat (rtN q.num.natAbs : Int) (rtN q.den) = q := by
      generalize mkRat (rtN q.num.natAbs : Int) (rtN q.den) = r at *
      generalize ((rtN q.num.natAbs : Nat) : Rat) = X at *
      generalize ((rtN q.den : Nat) : Rat) = Y at *
      have e : (r * r - q) * (Y * Y) = 0 := by
        have e3 : (r * r - q) * (Y * Y) = (r * Y) * (r * Y) - q * (Y * Y) := by grind
        rw [e3, mm', x2, y2, qn, Rat.sub_self]
      rcases Rat.mul_eq_zero.1 e with g | g
      · grind
      · rw [y2] at g; grind
    have zz : szR (mkRat (rtN q.num.natAbs : Int) (rtN q.den)) L := szR_nat (by omega) (by omega) hL1
    have bo := ball_Of (RatA_rv zz) (by omega)
    refine ⟨_, _, ?_, r0, Rat.le_refl, by rw [rr]; exact Rat.le_refl, by rw [rr]; exact Rat.le_refl, by rw [Rat.sub_self, Rat.zero_mul]; decide, szR_mono zz (by omega), szR_mono zz (by omega)⟩
    clear rr r0 zz mm
    obtain ⟨s, n, d, rfl, -⟩ := hv
    generalize mkRat (rtN q.num.natAbs : Int) (rtN q.den) = r at *
    refine Go.Ev.Fn.intro (fn := Tryz.f238) (body := (Tryz.f238).body.get!) (by kernel_rfl) (by kernel_rfl) (by kernel_rfl) (fun _ => rfl) (Nat.le_of_ble_eq_true (by kernel_rfl)) ?_; unfold Tryz.f238; simp only [Option.get!_some]
    repeat (first | (simp only [go_sem, hs, e1, e2]) | (simp (disch := (first | omega | (simp only [AL, List.length_map]; omega))) only [AR, AL, ifT, ifF, take_all, List.length_cons, List.length_nil, Int.reduceToNat, Int.reducePow, Nat.reducePow, hs, e1, e2]) | (refine wk_intro (by kernel_rfl) ?_) | (refine vp_draw (id := 8) (l := [32, 35, 37]) (by kernel_rfl) ?_) | (refine vf_of (by first | exact n1 | exact sq | exact bo) ?_))
  · rw [if_neg h] at sq
    clear h
    have s1 := nat_shl (N := q.num.natAbs) (m := 2 * p) (by omega) (by omega)
    have l3 := lim_len_shl (a := q.num.natAbs) (n := 2 * p)
    have dv := nat_DivL (N := q.num.natAbs * 2 ^ (2 * p)) (D := q.den) (by omega) (by omega) (by omega)
    have l4 := lim_len_mono (Nat.div_le_self (q.num.natAbs * 2 ^ (2 * p)) q.den)
    have rt := root_Int (a := q.num.natAbs * 2 ^ (2 * p) / q.den) (by omega)
    have l5 := lim_len_mono (rtN_self (q.num.natAbs * 2 ^ (2 * p) / q.den))
    have o1 := nat_Of 1 (by omega)
    have l1' := lim_len1
    have s2 := nat_shl (N := 1) (m := p) (by omega) (by omega)
    have l6 := lim_len_shl (a := 1) (n := p)
    rw [Nat.one_mul] at s2 l6
    have l7 := lim_len_add (a := rtN (q.num.natAbs * 2 ^ (2 * p) / q.den)) (b := 1) (L := L + 34) (by omega) (by omega)
    have ad := nat_AddL (N := rtN (q.num.natAbs * 2 ^ (2 * p) / q.den)) (D := 1) (by omega) (by omega)
    have f1 := rat_OfL (s := false) (n := rtN (q.num.natAbs * 2 ^ (2 * p) / q.den)) (d := 2 ^ p) (by omega) (by omega)
    have f2 := rat_OfL (s := false) (n := rtN (q.num.natAbs * 2 ^ (2 * p) / q.den) + 1) (d := 2 ^ p) (by omega) (by omega)
    have P : 0 < 2 ^ p := Nat.pow_pos (by omega)
    have g1 := rtN_le (q.num.natAbs * 2 ^ (2 * p) / q.den)
    have g2 := lt_rtN (q.num.natAbs * 2 ^ (2 * p) / q.den)
    have m1 := mk_mulP (rtN (q.num.natAbs * 2 ^ (2 * p) / q.den) : Int) P
    have m2 := mk_mulP ((rtN (q.num.natAbs * 2 ^ (2 * p) / q.den) + 1 : Nat) : Int) P
    refine ⟨_, _, ?_, ?_, ?_, ?_, ?_, ?_, szR_nat (n := rtN (q.num.natAbs * 2 ^ (2 * p) / q.den)) (d := 2 ^ p) (by omega) (by omega) (by omega), szR_nat (n := rtN (q.num.natAbs * 2 ^ (2 * p) / q.den) + 1) (d := 2 ^ p) (by omega) (by omega) (by omega)⟩
    · rw [show sgn false (rtN (q.num.natAbs * 2 ^ (2 * p) / q.den)) = (rtN (q.num.natAbs * 2 ^ (2 * p) / q.den) : Int) from rfl] at f1
      rw [show sgn false (rtN (q.num.natAbs * 2 ^ (2 * p) / q.den) + 1) = ((rtN (q.num.natAbs * 2 ^ (2 * p) / q.den) + 1 : Nat) : Int) from rfl] at f2
      clear g1 g2 m1 m2
      rw [show ((2 * p : Nat) : Int) = 2 * (p : Int) by omega] at s1
      obtain ⟨s, n, d, rfl, -⟩ := hv
      generalize mkRat (rtN (q.num.natAbs * 2 ^ (2 * p) / q.den) : Int) (2 ^ p) = r1 at *
      generalize mkRat ((rtN (q.num.natAbs * 2 ^ (2 * p) / q.den) + 1 : Nat) : Int) (2 ^ p) = r2 at *
      generalize rtN (q.num.natAbs * 2 ^ (2 * p) / q.den) + 1 = R1 at *
      generalize rtN (q.num.natAbs * 2 ^ (2 * p) / q.den) = R at *
      generalize q.num.natAbs * 2 ^ (2 * p) / q.den = u at *
      generalize q.num.natAbs * 2 ^ (2 * p) % q.den = u' at *
      generalize q.num.natAbs * 2 ^ (2 * p) = t at *
      generalize 2 ^ p = P' at *
      refine Go.Ev.Fn.intro (fn := Tryz.f238) (body := (Tryz.f238).body.get!) (by kernel_rfl) (by kernel_rfl) (by kernel_rfl) (fun _ => rfl) (Nat.le_of_ble_eq_true (by kernel_rfl)) ?_; unfold Tryz.f238; simp only [Option.get!_some]
      repeat (first | (simp only [go_sem, hs, e1, e2]) | (simp (disch := (first | omega | (simp only [AL, List.length_map]; omega))) only [AR, AL, ifT, ifF, take_all, List.length_cons, List.length_nil, Int.reduceToNat, Int.reducePow, Nat.reducePow, hs, e1, e2]) | (refine wk_intro (by kernel_rfl) ?_) | (refine vp_draw (id := 8) (l := [32, 35, 37]) (by kernel_rfl) ?_) | (refine vf_of (by first | exact n1 | exact sq | exact s1 | exact dv | exact rt | exact o1 | exact s2 | exact f1 | exact ad | exact f2) ?_))
    all_goals
      have m1' : mkRat (rtN (q.num.natAbs * 2 ^ (2 * p) / q.den) : Int) (2 ^ p) * p2 p = ((rtN (q.num.natAbs * 2 ^ (2 * p) / q.den) : Nat) : Rat) := m1
      have m2' : mkRat ((rtN (q.num.natAbs * 2 ^ (2 * p) / q.den) + 1 : Nat) : Int) (2 ^ p) * p2 p = ((rtN (q.num.natAbs * 2 ^ (2 * p) / q.den) + 1 : Nat) : Rat) := m2
      have PR := p2_pos p
      have eS : ((rtN (q.num.natAbs * 2 ^ (2 * p) / q.den) + 1 : Nat) : Rat) = ((rtN (q.num.natAbs * 2 ^ (2 * p) / q.den) : Nat) : Rat) + 1 := by exact_mod_cast rfl
      have R0 := nat_nonneg (rtN (q.num.natAbs * 2 ^ (2 * p) / q.den))
    · exact le_by PR (by rw [Rat.zero_mul]; exact Rat.le_trans R0 (by rw [← m1']; exact Rat.le_refl))
    · refine le_by PR ?_
      show mkRat (rtN (q.num.natAbs * 2 ^ (2 * p) / q.den) : Int) (2 ^ p) * p2 p ≤ mkRat ((rtN (q.num.natAbs * 2 ^ (2 * p) / q.den) + 1 : Nat) : Int) (2 ^ p) * p2 p
      rw [m1', m2', eS]
      grind
    · show mkRat (rtN (q.num.natAbs * 2 ^ (2 * p) / q.den) : Int) (2 ^ p) * mkRat (rtN (q.num.natAbs * 2 ^ (2 * p) / q.den) : Int) (2 ^ p) ≤ q
      have a1 := nat_le_rat (Nat.mul_le_mul_right q.den g1)
      have a2 := nat_le_rat (Nat.div_mul_le_self (q.num.natAbs * 2 ^ (2 * p)) q.den)
      have a3 := Rat.le_trans a1 a2
      rw [show 2 ^ (2 * p) = 2 ^ p * 2 ^ p by rw [← Nat.pow_add]; congr 1; omega] at *
      rw [nn_mul, nn_mul, nn_mul, nn_mul, qa] at a3
      generalize mkRat (rtN (q.num.natAbs * (2 ^ p * 2 ^ p) / q.den) : Int) (2 ^ p) = r at *
      generalize ((rtN (q.num.natAbs * (2 ^ p * 2 ^ p) / q.den) : Nat) : Rat) = R at *
      have PP : (0 : Rat) < p2 p * p2 p * (q.den : Rat) := Rat.mul_pos (Rat.mul_pos PR PR) DR
      refine le_by PP ?_
      have e1 : r * r * (p2 p * p2 p * (q.den : Rat)) = (r * p2 p) * (r * p2 p) * (q.den : Rat) := by grind
      have e2 : q * (p2 p * p2 p * (q.den : Rat)) = q * (q.den : Rat) * (p2 p * p2 p) := by grind
      rw [e1, e2, m1', qn]
      exact a3
    · show q ≤ mkRat ((rtN (q.num.natAbs * 2 ^ (2 * p) / q.den) + 1 : Nat) : Int) (2 ^ p) * mkRat ((rtN (q.num.natAbs * 2 ^ (2 * p) / q.den) + 1 : Nat) : Int) (2 ^ p)
      have a1 := nat_le_rat (Nat.mul_le_mul_right q.den (show q.num.natAbs * 2 ^ (2 * p) / q.den + 1 ≤ _ from g2))
      have a2 := le_floor (a := q.num.natAbs * 2 ^ (2 * p)) (d := q.den) D
      rw [← nn_mul] at a2
      have a3 := Rat.le_trans a2 a1
      rw [show 2 ^ (2 * p) = 2 ^ p * 2 ^ p by rw [← Nat.pow_add]; congr 1; omega] at *
      rw [nn_mul, nn_mul, nn_mul, nn_mul, qa] at a3
      generalize mkRat ((rtN (q.num.natAbs * (2 ^ p * 2 ^ p) / q.den) + 1 : Nat) : Int) (2 ^ p) = r at *
      generalize ((rtN (q.num.natAbs * (2 ^ p * 2 ^ p) / q.den) + 1 : Nat) : Rat) = R at *
      have PP : (0 : Rat) < p2 p * p2 p * (q.den : Rat) := Rat.mul_pos (Rat.mul_pos PR PR) DR
      refine le_by PP ?_
      have e1 : r * r * (p2 p * p2 p * (q.den : Rat)) = (r * p2 p) * (r * p2 p) * (q.den : Rat) := by grind
      have e2 : q * (p2 p * p2 p * (q.den : Rat)) = q * (q.den : Rat) * (p2 p * p2 p) := by grind
      rw [e1, e2, m2', qn]
      exact a3
    · show (mkRat ((rtN (q.num.natAbs * 2 ^ (2 * p) / q.den) + 1 : Nat) : Int) (2 ^ p) - mkRat (rtN (q.num.natAbs * 2 ^ (2 * p) / q.den) : Int) (2 ^ p)) * p2 p ≤ 1
      have e : ∀ a b c : Rat, (a - b) * c = a * c - b * c := by intro a b c; grind
      rw [e, m1', m2', eS]
      grind
theorem root_Of {A B : Rat} {L p : Nat} (hA : 0 ≤ A) (hB : 0 ≤ B) (zA : szR A L) (zB : szR B L) (hL1 : 1 ≤ L) (hL : L ≤ 300) (hp : p ≤ 512) :
    ∃ lo lo' hi' hi : Rat, Go.Ev.Fn CX 218 [ballR A B, .int .i64 (p : Int)] (.tup [ballR lo hi, .bool true]) ∧ 0 ≤ lo ∧ lo ≤ lo' ∧ lo * lo ≤ A ∧ A ≤ lo' * lo' ∧ (lo' - lo) * p2 p ≤ 1 ∧
      0 ≤ hi' ∧ hi' ≤ hi ∧ hi' * hi' ≤ B ∧ B ≤ hi * hi ∧ (hi - hi') * p2 p ≤ 1 ∧ szR lo (L + 40) ∧ szR hi (L + 40) := by
  obtain ⟨a1, a2, f, g1, g2, g3, g4, g5, g6, g7⟩ := root_Sqrt (RatA_rv zA) hA hL1 hL hp
  obtain ⟨b1, b2, f', k1, k2, k3, k4, k5, k6, k7⟩ := root_Sqrt (RatA_rv zB) hB hL1 hL hp
  refine ⟨a1, a2, b1, b2, ?_, g1, g2, g3, g4, g5, k1, k2, k3, k4, k5, g6, k7⟩
  clear g1 g2 g3 g4 g5 k1 k2 k3 k4 k5
  refine Go.Ev.Fn.intro (fn := Tryz.f218) (body := (Tryz.f218).body.get!) (by kernel_rfl) (by kernel_rfl) (by kernel_rfl) (fun _ => rfl) (Nat.le_of_ble_eq_true (by kernel_rfl)) ?_; unfold Tryz.f218; simp only [Option.get!_some]
  repeat (first | (simp only [go_sem, Bool.not_true]) | (simp (disch := (first | omega | (simp only [AL, List.length_map]; omega))) only [AR, AL, ifT, ifF, take_all, List.length_cons, List.length_nil, Int.reduceToNat, Int.reducePow, Nat.reducePow, Bool.not_true]) | (refine wk_intro (by kernel_rfl) ?_) | (refine vf_of (by first | exact f | exact f') ?_))
end Go.Proofs.YtecjelnpmcnbaaaGreat
namespace Go.Ev
def piW : Nat := 16525204305188294122575967610974940178026148430521517253674428844222689879174614411560235390899801560652737794125520858649187813498260676587492720299944119139547246105762461028318293173887444219654040121887534587
def piOk2 (p : Nat) : Bool := match piF (p + 64) with
  | some (lo, hi) => pin (lo / 2 ^ 64) fun a => Nat.beq a ((hi - 1) / 2 ^ 64) && (Nat.ble (a * 2 ^ (700 - p)) piW && Nat.ble piW ((a + 1) * 2 ^ (700 - p)))
  | none => false
theorem pi_ok2 : allFrom piOk2 241 300 = true := by kernel_rfl
end Go.Ev
namespace Go.Proofs.YtecjelnpmcnbaaaGreat
open Go.Ev
theorem ball_okS {lo hi : Rat} {w : Nat} (h0 : 0 ≤ lo) (h1 : lo ≤ hi) (h2 : lo ≤ 1) (h3 : (hi - lo) * p2 w ≤ 1) : okS (2 ^ w) (unN lo w) (unN hi w + 1) 4 := by
  have P := p2_pos w
  have a := unN_le h0 w
  have b := unN_le (show 0 ≤ hi by grind) w
  have c := Rat.mul_le_mul_of_nonneg_right h2 (show 0 ≤ p2 w by grind)
  have d := Rat.mul_le_mul_of_nonneg_right h1 (show 0 ≤ p2 w by grind)
  have n1 : ((unN lo w + 1 : Nat) : Rat) = ((unN lo w : Nat) : Rat) + 1 := by exact_mod_cast rfl
  have n2 : ((unN lo w + 4 : Nat) : Rat) = ((unN lo w : Nat) : Rat) + 4 := by exact_mod_cast rfl
  have n3 : ((unN hi w + 1 : Nat) : Rat) = ((unN hi w : Nat) : Rat) + 1 := by exact_mod_cast rfl
  have n4 : ((2 ^ w + 4 : Nat) : Rat) = p2 w + 4 := by exact_mod_cast rfl
  refine ⟨?_, ?_, ?_⟩
  · have : ((unN lo w : Nat) : Rat) ≤ ((unN hi w + 1 : Nat) : Rat) := by grind
    exact_mod_cast this
  · have : ((unN hi w + 1 : Nat) : Rat) ≤ ((unN lo w + 4 : Nat) : Rat) := by rw [n2, n3]; grind
    exact_mod_cast this
  · have : ((unN hi w + 1 : Nat) : Rat) ≤ ((2 ^ w + 4 : Nat) : Rat) := by rw [n3, n4]; grind
    exact_mod_cast this
theorem okS_mul2 {P a b c d e g : Nat} (hP : 100000000 ≤ P) (he : e ≤ 10000) (hg : g ≤ 10000) (h : okS P a b e) (h2 : okS P c d g) : okS P (a * c / P) (b * d / P + 1) (2 * (e + g) + 2) := by
  obtain ⟨h1, h3, h4⟩ := h
  obtain ⟨k1, k3, k4⟩ := h2
  have hP0 : 0 < P := by omega
  have m1 := Nat.mul_le_mul h1 k1
  refine ⟨Nat.le_succ_of_le (Nat.div_le_div_right m1), ?_, ?_⟩
  · have d1 := Nat.div_add_mod (a * c) P
    have d2 := Nat.mod_lt (a * c) hP0
    have e1 : b * d ≤ a * c + (e * d + b * g) := by
      have x1 : b * d ≤ (a + e) * d := Nat.mul_le_mul_right d h3
      have x2 : a * d ≤ a * (c + g) := Nat.mul_le_mul_left a k3
      have x3 : a * g ≤ b * g := Nat.mul_le_mul_right g h1
      rw [Nat.add_mul] at x1
      rw [Nat.mul_add] at x2
      omega
    have e2 : e * d ≤ e * (2 * P) := Nat.mul_le_mul_left e (by omega)
    have e3 : b * g ≤ 2 * P * g := Nat.mul_le_mul_right g (by omega)
    have e4 : b * d < (a * c / P + (2 * (e + g) + 2)) * P := by
      have y1 : (a * c / P + (2 * (e + g) + 2)) * P = P * (a * c / P) + (e * (2 * P) + 2 * P * g + 2 * P) := by
        rw [Nat.add_mul, Nat.mul_comm _ P]
        congr 1
        grind
      omega
    have := (Nat.div_lt_iff_lt_mul hP0).2 e4
    omega
  · have e1 : b * d ≤ (P + e) * (P + g) := Nat.mul_le_mul h4 k4
    have e2 : (P + e) * (P + g) = P * P + (e + g) * P + e * g := by grind
    have e3 : e * g ≤ 10000 * 10000 := Nat.mul_le_mul he hg
    have e4 : b * d < (P + (e + g) + 2) * P := by
      have : (P + (e + g) + 2) * P = P * P + (e + g) * P + 2 * P := by rw [Nat.add_mul, Nat.add_mul]
      omega
    have := (Nat.div_lt_iff_lt_mul hP0).2 e4
    omega
end Go.Proofs.YtecjelnpmcnbaaaGreat
namespace Go.Proofs.YtecjelnpmcnbaaaGreat
open Go.Ev
theorem incb_pow {q : Rat} {n w L : Nat} (hn : n ≤ 30) (hz : szR q L) (hL1 : 1 ≤ L) (hL : L ≤ 250) (h0 : 0 ≤ q) (h1 : q ≤ 1) (hw : w ≤ 512) (hw0 : 60 ≤ w) :
    ∃ X1 X2 : Nat, ∃ s1 s2 : Rat, Go.Ev.Fn CX 242 [.int .i64 (n : Int), rv q, .int .i64 (w : Int)] (spanV X1 X2) ∧ okS (2 ^ w) X1 X2 1100 ∧ 0 ≤ s1 ∧ s1 ≤ s2 ∧ s1 * s1 ≤ q ∧ q ≤ s2 * s2 ∧
      ∀ s, s1 ≤ s → s ≤ s2 → Enc w X1 X2 (pwR q (n / 2) * (if n % 2 = 1 then s else 1)) := by
  have k1 := okS_pw (A := n / 2) (w := w) h0 h1 (by omega)
  have pe : Enc w (pwN q (n / 2) w).1 (pwN q (n / 2) w).2 (pwR q (n / 2)) := by
    have one : Enc w (2 ^ w) (2 ^ w + 1) 1 := by
      refine ⟨by rw [Rat.one_mul]; exact Rat.le_refl, ?_⟩
      rw [Rat.one_mul]
      exact_mod_cast Nat.le_succ (2 ^ w)
    have un : Enc w (unN q w) (unN q w + 1) q := by
      have := unN_le h0 w
      exact ⟨this.1, this.2⟩
    have h := powGo_enc 4 (n / 2) _ _ _ _ (by omega) one un
    rw [Rat.one_mul] at h
    exact h
  by_cases hod : n % 2 = 1
  · obtain ⟨lo, hi, f, g1, g2, g3, g4, g5, y1, y2⟩ := root_Sqrt (p := w) (RatA_rv hz) h0 hL1 (by omega) (by omega)
    have lo1 : lo ≤ 1 := by
      rcases Rat.le_total (a := lo) (b := 1) with g | g
      · exact g
      · have a1 := Rat.mul_le_mul_of_nonneg_left g g1
        grind
    have r : Go.Ev.Fn CX 228 [rv q, .int .i64 (w : Int)] (spanV (unN q w) (unN q w + 1)) := fix_Rat hz (by omega) (w := w) (by omega)
    obtain ⟨l1, l2⟩ := unN_len1 h0 h1 (show w ≤ 900 by omega)
    have p : Go.Ev.Fn CX 248 [spanV (unN q w) (unN q w + 1), .int .i64 ((n / 2 : Nat) : Int), .int .i64 (w : Int)] (spanV (pwN q (n / 2) w).1 (pwN q (n / 2) w).2) := fix_Power (a1 := unN q w) (a2 := unN q w + 1) (n := n / 2) (w := w) (F := 4) (by omega) (by omega) (by omega) l2 (by omega) (by omega)
    have bb := fix_Ball (w := w) y1 y2 (by omega) (by omega)
    have k2 := ball_okS (w := w) g1 g2 lo1 g5
    have hP : 2 ^ 60 ≤ 2 ^ w := Nat.pow_le_pow_right (n := 2) (by omega) hw0
    have k3 := okS_mul2 (by omega) (by omega) (by omega) k1 k2
    obtain ⟨a1, a2⟩ := okS_len k1 (by omega) (show w ≤ 900 by omega) (by omega)
    obtain ⟨b1, b2⟩ := okS_len k2 (by omega) (show w ≤ 900 by omega) (by omega)
    have mu := fix_Mul (a := (pwN q (n / 2) w).1) (b := (pwN q (n / 2) w).2) (c := unN lo w) (d := unN hi w + 1) (w := w) (by omega) (by omega) (by omega) (by omega) (by omega) (by omega)
    refine ⟨_, _, lo, hi, ?_, okS_mono k3 (by omega), g1, g2, g3, g4, ?_⟩
    · have an := and_one64 (a := n) (by omega)
      rw [hod] at an
      have td : (n : Int).tdiv 2 = ((n / 2 : Nat) : Int) := _root_.id rfl
      clear k1 k2 k3 pe g1 g2 g3 g4 g5
      generalize (pwN q (n / 2) w).1 * unN lo w / 2 ^ w = Z1 at *
      generalize (pwN q (n / 2) w).2 * (unN hi w + 1) / 2 ^ w + 1 = Z2 at *
      generalize (pwN q (n / 2) w).1 = x at *
      generalize (pwN q (n / 2) w).2 = y at *
      generalize unN hi w + 1 = u2 at *
      generalize unN lo w = u1 at *
      generalize unN q w = u at *
      refine Go.Ev.Fn.intro (fn := Tryz.f242) (body := (Tryz.f242).body.get!) (by kernel_rfl) (by kernel_rfl) (by kernel_rfl) (fun _ => rfl) (Nat.le_of_ble_eq_true (by kernel_rfl)) ?_; unfold Tryz.f242; simp only [Option.get!_some]
      repeat (first | (simp only [go_sem, an, td]) | (simp (disch := (first | omega | (simp only [AL, List.length_map]; omega))) only [AR, AL, ifT, ifF, take_all, List.length_cons, List.length_nil, Int.reduceToNat, Int.reducePow, Nat.reducePow, an, td]) | (refine wk_intro (by kernel_rfl) ?_) | (refine vp_draw (id := 4) (l := []) (by kernel_rfl) ?_) | (refine vf_of (by first | exact r | exact p | exact f | exact bb | exact mu) ?_))
    · intro s hs1 hs2
      rw [if_pos hod]
      exact enc_mul pe (ball_enc g1 hs1 hs2 w)
  · have h := incb_power (A := n / 2) (w := w) (by omega) hz (by omega) (unN_len1 h0 h1 (show w ≤ 900 by omega)) (by omega) (by omega)
    rw [show 2 * ((n / 2 : Nat) : Int) = (n : Int) by omega] at h
    refine ⟨_, _, 0, 1, h, okS_mono k1 (by omega), Rat.le_refl, by decide, by rw [Rat.zero_mul]; exact h0, by rw [Rat.mul_one]; exact h1, ?_⟩
    intro s _ _
    rw [if_neg hod, Rat.mul_one]
    exact pe
def PI0 : Rat := mkRat (piW : Int) (2 ^ 700)
theorem mk_p2n (a p : Nat) : mkRat (a : Int) (2 ^ p) * p2 p = (a : Rat) := mk_mulP (a : Int) (Nat.pow_pos (by omega))
theorem PI0_mul : PI0 * p2 700 = (piW : Rat) := mk_p2n piW 700
theorem p2_plus (a b : Nat) : p2 (a + b) = p2 a * p2 b := by
  have : ((2 ^ a : Nat) : Rat) * ((2 ^ b : Nat) : Rat) = ((2 ^ a * 2 ^ b : Nat) : Rat) := by exact_mod_cast rfl
  show ((2 ^ (a + b) : Nat) : Rat) = ((2 ^ a : Nat) : Rat) * ((2 ^ b : Nat) : Rat)
  rw [this, Nat.pow_add]
theorem pi_lo {a p : Nat} (hp : p ≤ 700) (h : a * 2 ^ (700 - p) ≤ piW) : (a : Rat) ≤ PI0 * p2 p := by
  refine le_by (p2_pos (700 - p)) ?_
  have e : PI0 * p2 p * p2 (700 - p) = (piW : Rat) := by
    rw [← PI0_mul, Rat.mul_assoc, ← p2_plus, show p + (700 - p) = 700 by omega]
  rw [e]
  have e2 : (a : Rat) * p2 (700 - p) = ((a * 2 ^ (700 - p) : Nat) : Rat) := by exact_mod_cast rfl
  rw [e2]
  exact_mod_cast h
theorem pi_hi {a p : Nat} (hp : p ≤ 700) (h : piW ≤ a * 2 ^ (700 - p)) : PI0 * p2 p ≤ (a : Rat) := by
  refine le_by (p2_pos (700 - p)) ?_
  have e : PI0 * p2 p * p2 (700 - p) = (piW : Rat) := by
    rw [← PI0_mul, Rat.mul_assoc, ← p2_plus, show p + (700 - p) = 700 by omega]
  rw [e]
  have e2 : (a : Rat) * p2 (700 - p) = ((a * 2 ^ (700 - p) : Nat) : Rat) := by exact_mod_cast rfl
  rw [e2]
  exact_mod_cast h
theorem arcs_Pi2 {p : Nat} (h1 : 300 ≤ p) (h2 : p ≤ 512) : ∃ a : Nat, Go.Ev.Fn CX 219 [.int .i64 (p : Int)] (ballR (mkRat (a : Int) (2 ^ p)) (mkRat ((a + 1 : Nat) : Int) (2 ^ p))) ∧ (a : Rat) ≤ PI0 * p2 p ∧ PI0 * p2 p ≤ ((a + 1 : Nat) : Rat) ∧ 2 * 2 ^ p ≤ a ∧ a ≤ 4 * 2 ^ p := by
  have h := allFrom_at pi_ok2 p h1 (by omega)
  unfold piOk2 at h
  split at h
  · rename_i lo hi hpi
    rw [pin_eq, Bool.and_eq_true, Bool.and_eq_true] at h
    obtain ⟨k1, k2, k3⟩ := h
    have k1 := Nat.eq_of_beq_eq_true k1
    have k2 := Nat.le_of_ble_eq_true k2
    have k3 := Nat.le_of_ble_eq_true k3
    obtain ⟨f, g1, g2⟩ := arcs_pi (by omega) (by omega) hpi
    have c := fix_Certain1 (p := p) (sp := 64) f (by omega) (by omega) (by omega) (by omega) (by omega) k1
    have hh := arcs_held (p : Int)
    rw [if_neg (by omega), if_neg (by omega)] at hh
    have sp : 2 ^ 700 = 2 ^ p * 2 ^ (700 - p) := by rw [← Nat.pow_add]; congr 1; omega
    have q0 : 0 < 2 ^ (700 - p) := Nat.pow_pos (by omega)
    have z3 : 3 * 2 ^ 700 ≤ piW := by decide +kernel
    have z4 : piW ≤ 4 * 2 ^ 700 := by decide +kernel
    have b1 : 2 * 2 ^ p ≤ lo / 2 ^ 64 := by
      have x1 : 3 * 2 ^ p * 2 ^ (700 - p) ≤ (lo / 2 ^ 64 + 1) * 2 ^ (700 - p) := by rw [Nat.mul_assoc, ← sp]; exact Nat.le_trans z3 k3
      have x2 := Nat.le_of_mul_le_mul_right x1 q0
      have x3 : 0 < 2 ^ p := Nat.pow_pos (by omega)
      omega
    have b2 : lo / 2 ^ 64 ≤ 4 * 2 ^ p := by
      have x1 : lo / 2 ^ 64 * 2 ^ (700 - p) ≤ 4 * 2 ^ p * 2 ^ (700 - p) := by rw [Nat.mul_assoc 4, ← sp]; exact Nat.le_trans k2 z4
      exact Nat.le_of_mul_le_mul_right x1 q0
    refine ⟨lo / 2 ^ 64, ?_, pi_lo (by omega) k2, pi_hi (by omega) k3, b1, b2⟩
    clear k2 k3 f hpi b1 b2 sp z3 z4
    generalize mkRat ((lo / 2 ^ 64 : Nat) : Int) (2 ^ p) = q1 at *
    generalize mkRat ((lo / 2 ^ 64 + 1 : Nat) : Int) (2 ^ p) = q2 at *
    refine Go.Ev.Fn.intro (fn := Tryz.f219) (body := (Tryz.f219).body.get!) (by kernel_rfl) (by kernel_rfl) (by kernel_rfl) (fun _ => rfl) (Nat.le_of_ble_eq_true (by kernel_rfl)) ?_; unfold Tryz.f219; simp only [Option.get!_some]
    repeat (first | (simp only [go_sem]) | (simp (disch := (first | omega | (simp only [AL, List.length_map]; omega))) only [AR, AL, ifT, ifF, take_all, List.length_cons, List.length_nil, Int.reduceToNat, Int.reducePow, Nat.reducePow]) | (refine wk_intro (by kernel_rfl) ?_) | (refine vf_of (by first | exact hh | exact c) ?_))
  · cases h
theorem inv_gap {P a : Nat} (hP : 4 ≤ P) (ha : 2 * P ≤ a) : okS P (P * P / (a + 2)) (P * P / a + 1) 3 := by
  have u1 : P * P / (a + 2) ≤ P / 2 := by
    rw [Nat.div_le_iff_le_mul (by omega)]
    have h1 : 2 * (P * P) ≤ (P) * (a + 2) := by
      have := Nat.mul_le_mul_left P (show 2 * P ≤ a + 2 by omega)
      rw [Nat.mul_left_comm] at this
      exact this
    have h2 : P * (a + 2) ≤ (2 * (P / 2) + 1) * (a + 2) := Nat.mul_le_mul_right _ (by omega)
    have h3 : (2 * (P / 2) + 1) * (a + 2) = 2 * (P / 2 * (a + 2)) + (a + 2) := by rw [Nat.add_mul, Nat.mul_assoc, Nat.one_mul]
    omega
  have d1 := Nat.div_add_mod (P * P) (a + 2)
  have d2 := Nat.mod_lt (P * P) (show 0 < a + 2 by omega)
  generalize hu : P * P / (a + 2) = u at *
  have v1 : P * P / a ≤ u + 2 := by
    refine Nat.le_of_lt_succ ((Nat.div_lt_iff_lt_mul (by omega)).2 ?_)
    have e1 : (a + 2) * u = a * u + 2 * u := Nat.add_mul _ _ _
    have e2 : (u + 2).succ * a = a * u + 3 * a := by
      rw [show (u + 2).succ = u + 3 by omega, Nat.add_mul, Nat.mul_comm u a]
    omega
  refine ⟨?_, by omega, by omega⟩
  have := Nat.div_le_div_left (show a ≤ a + 2 by omega) (show 0 < a by omega) (a := P * P)
  omega
end Go.Proofs.YtecjelnpmcnbaaaGreat
namespace Go.Proofs.YtecjelnpmcnbaaaGreat
open Go.Ev
theorem gap_mul {P U1 U2 i1 i2 g T : Nat} (hP : 4 ≤ P) (h1 : U1 ≤ U2) (h2 : U2 ≤ U1 + g) (h3 : U2 ≤ T * P) (h : okS P i1 i2 3) : U1 * i1 / P ≤ U2 * i2 / P + 1 ∧ U2 * i2 / P + 1 ≤ U1 * i1 / P + (2 * g + 3 * T + 3) ∧ U2 * i2 / P + 1 ≤ 2 * (T * P) + 1 := by
  obtain ⟨k1, k2, k3⟩ := h
  have hP0 : 0 < P := by omega
  refine ⟨Nat.le_succ_of_le (Nat.div_le_div_right (Nat.mul_le_mul h1 k1)), ?_, ?_⟩
  · have d1 := Nat.div_add_mod (U1 * i1) P
    have d2 := Nat.mod_lt (U1 * i1) hP0
    have e1 : U2 * i2 ≤ U1 * i1 + (g * i2 + U2 * 3) := by
      have x1 : U2 * i2 ≤ (U1 + g) * i2 := Nat.mul_le_mul_right i2 h2
      have x2 : U1 * i2 ≤ U1 * (i1 + 3) := Nat.mul_le_mul_left U1 k2
      rw [Nat.add_mul] at x1
      rw [Nat.mul_add] at x2
      omega
    have e2 : g * i2 ≤ g * (2 * P) := Nat.mul_le_mul_left g (by omega)
    have e4 : U2 * i2 < (U1 * i1 / P + (2 * g + 3 * T + 1)) * P := by
      have y1 : (U1 * i1 / P + (2 * g + 3 * T + 1)) * P = P * (U1 * i1 / P) + (g * (2 * P) + 3 * (T * P) + P) := by
        rw [Nat.add_mul, Nat.mul_comm _ P]
        congr 1
        grind
      omega
    have := (Nat.div_lt_iff_lt_mul hP0).2 e4
    omega
  · have e1 : U2 * i2 ≤ U2 * (2 * P) := Nat.mul_le_mul_left _ (by omega)
    have e2 : U2 * (2 * P) ≤ T * P * (2 * P) := Nat.mul_le_mul_right _ h3
    have e3 : T * P * (2 * P) = 2 * (T * P) * P := by grind
    have : U2 * i2 / P ≤ 2 * (T * P) := Nat.div_le_of_le_mul (by rw [Nat.mul_comm P]; omega)
    omega
theorem unN_exact (A w : Nat) : unN (mkRat (A : Int) (2 ^ w)) w = A := by
  have y1 := mk_p2n A w
  have PW := p2_pos w
  have m0 : 0 ≤ mkRat (A : Int) (2 ^ w) := le_by PW (by rw [y1, Rat.zero_mul]; exact nat_nonneg A)
  generalize mkRat (A : Int) (2 ^ w) = q at *
  have h := num_den q
  have h2 : ((q.num.natAbs : Nat) : Rat) = (q.num : Rat) := by
    have : (q.num.natAbs : Int) = q.num := Int.natAbs_of_nonneg (Rat.num_nonneg.2 m0)
    rw [← this]; rfl
  have e : ((q.num.natAbs * 2 ^ w : Nat) : Rat) = ((A * q.den : Nat) : Rat) := by
    have c1 : ((q.num.natAbs * 2 ^ w : Nat) : Rat) = ((q.num.natAbs : Nat) : Rat) * p2 w := by exact_mod_cast rfl
    have c2 : ((A * q.den : Nat) : Rat) = (A : Rat) * (q.den : Rat) := by exact_mod_cast rfl
    rw [c1, c2, h2, ← h, ← y1]
    grind
  have e2 : q.num.natAbs * 2 ^ w = A * q.den := by exact_mod_cast e
  show q.num.natAbs * 2 ^ w / q.den = A
  rw [e2, Nat.mul_div_cancel _ q.den_pos]
def betOk (a b : Nat) : Bool := Nat.ble ((beta2 a b).den * 2) (1048576 * ((beta2 a b).num.natAbs * a)) && Nat.ble 1 (beta2 a b).num.natAbs
theorem bets_ok : (List.range 20).all (fun a => (List.range 20).all fun b => betOk (a + 1) (b + 1)) = true := by decide +kernel
theorem bet_ok {a b : Nat} (h1 : 1 ≤ a) (h2 : 1 ≤ b) (h3 : a ≤ 20) (h4 : b ≤ 20) : (beta2 a b).den * 2 ≤ 1048576 * ((beta2 a b).num.natAbs * a) ∧ 0 < (beta2 a b).num.natAbs * a := by
  have h := List.all_eq_true.1 bets_ok (a - 1) (List.mem_range.2 (by omega))
  have h' := List.all_eq_true.1 h (b - 1) (List.mem_range.2 (by omega))
  rw [show a - 1 + 1 = a by omega, show b - 1 + 1 = b by omega] at h'
  unfold betOk at h'
  rw [Bool.and_eq_true] at h'
  exact ⟨Nat.le_of_ble_eq_true h'.1, Nat.mul_pos (Nat.le_of_ble_eq_true h'.2) (by omega)⟩
def fstR (a b : Nat) (x sx sy : Rat) : Rat :=
  (pwR x (a / 2) * (if a % 2 = 1 then sx else 1)) * (pwR (1 - x) (b / 2) * (if b % 2 = 1 then sy else 1)) * (((beta2 a b).den * 2 : Nat) : Rat) / (((beta2 a b).num.natAbs * a : Nat) : Rat) * (if a % 2 * (b % 2) = 1 then 1 / PI0 else 1)
set_option maxHeartbeats 1000000 in
theorem incb_fst {x : Rat} {a b w L : Nat} (ha : 1 ≤ a) (ha2 : a ≤ 20) (hb : 1 ≤ b) (hb2 : b ≤ 20) (hz : szR x L) (hL1 : 1 ≤ L) (hL : L ≤ 200) (h0 : 0 ≤ x) (h1 : x ≤ 1) (hw0 : 300 ≤ w) (hw : w ≤ 512) :
    ∃ F1 F2 : Nat, ∃ p1 p2' q1 q2 : Rat, Go.Ev.Fn CX 233 [.int .i64 (a : Int), .int .i64 (b : Int), rv x, .int .i64 (w : Int)] (spanV F1 F2) ∧ F1 ≤ F2 ∧ F2 ≤ F1 + 2 ^ 45 ∧ F2 ≤ 2 ^ (w + 25) ∧
      p1 ≤ p2' ∧ 0 ≤ p1 ∧ p1 * p1 ≤ x ∧ x ≤ p2' * p2' ∧ q1 ≤ q2 ∧ 0 ≤ q1 ∧ q1 * q1 ≤ 1 - x ∧ 1 - x ≤ q2 * q2 ∧
      ∀ sx sy, p1 ≤ sx → sx ≤ p2' → q1 ≤ sy → sy ≤ q2 → Enc w F1 F2 (fstR a b x sx sy) := by
  have one1 : szR 1 1 := ⟨lim_len_lt (by decide +kernel), lim_len_lt (by decide +kernel)⟩
  have zy := szR_sub one1 hz (by omega)
  obtain ⟨X1, X2, p1, p2', f1, k1, a0, a1, a2, a3, ex⟩ := incb_pow (n := a) (w := w) (by omega) hz hL1 (by omega) h0 h1 (by omega) (by omega)
  obtain ⟨Y1, Y2, q1, q2, f2, k2, b0, b1, b2, b3, ey⟩ := incb_pow (n := b) (w := w) (by omega) zy (by omega) (by omega) (show 0 ≤ 1 - x by clear f1 k1 ex; grind) (show 1 - x ≤ 1 by clear f1 k1 ex; grind) (by omega) (by omega)
  have i1 := rat_Int 1 (by omega)
  have sb := rat_Sub (RatA_rv one1) (RatA_rv hz) (by omega) hL1 (by omega)
  rw [show ((1 : Int) : Rat) = 1 from rfl] at i1
  have hP : 2 ^ 60 ≤ 2 ^ w := Nat.pow_le_pow_right (n := 2) (by omega) (by omega)
  obtain ⟨lx1, lx2⟩ := okS_len k1 (by omega) (show w ≤ 900 by omega) (by omega)
  obtain ⟨ly1, ly2⟩ := okS_len k2 (by omega) (show w ≤ 900 by omega) (by omega)
  have mu := fix_Mul (a := X1) (b := X2) (c := Y1) (d := Y2) (w := w) (by omega) (by omega) (by omega) (by omega) (by omega) (by omega)
  have k3 := okS_mul2 (by omega) (by omega) (by omega) k1 k2
  have em := fun sx sy (u1 : p1 ≤ sx) (u2 : sx ≤ p2') (v1 : q1 ≤ sy) (v2 : sy ≤ q2) => enc_mul (ex sx u1 u2) (ey sy v1 v2)
  generalize X1 * Y1 / 2 ^ w = M1 at *
  generalize X2 * Y2 / 2 ^ w + 1 = M2 at *
  obtain ⟨lm1, lm2⟩ := okS_len k3 (by omega) (show w ≤ 900 by omega) (by omega)
  have be := gam_Beta a b ha (by omega) hb (by omega)
  obtain ⟨c1, c2⟩ := bet_ok ha hb ha2 hb2
  obtain ⟨z1, z2⟩ := beta2_size (a := a) (b := b) (by omega) (by omega)
  have o2 := nat_Of 2 (by omega)
  have oa := nat_Of a (by omega)
  have l2 : (lim 2).length ≤ 1 := lim_len_one (by decide)
  have la : (lim a).length ≤ 1 := lim_len_one (by omega)
  have m1 := nat_MulL (N := (beta2 a b).den) (D := 2) (by omega) (by omega)
  have m2 := nat_MulL (N := (beta2 a b).num.natAbs) (D := a) (by omega) (by omega)
  have ln1 := lim_len_mul (a := (beta2 a b).den) (b := 2)
  have ln2 := lim_len_mul (a := (beta2 a b).num.natAbs) (b := a)
  have ti := fix_Times (a := M1) (b := M2) (n := (beta2 a b).den * 2) (d := (beta2 a b).num.natAbs * a) (by omega) (by omega) (by omega) (by omega) (by omega)
  have et := fun sx sy (u1 : p1 ≤ sx) (u2 : sx ≤ p2') (v1 : q1 ≤ sy) (v2 : sy ≤ q2) => enc_times (n := (beta2 a b).den * 2) (d := (beta2 a b).num.natAbs * a) c2 (em sx sy u1 u2 v1 v2)
  have gs := quo_sub (n := (beta2 a b).den * 2) (m := (beta2 a b).num.natAbs * a) k3.1 c2
  have gq := quo_le (v := M2 - M1) (n := (beta2 a b).den * 2) (m := (beta2 a b).num.natAbs * a) (c := 1048576) (d := 1) c2 (by omega)
  have gr := quo_le (v := M2) (n := (beta2 a b).den * 2) (m := (beta2 a b).num.natAbs * a) (c := 1048576) (d := 1) c2 (by omega)
  have gm : M1 * ((beta2 a b).den * 2) / ((beta2 a b).num.natAbs * a) ≤ M2 * ((beta2 a b).den * 2) / ((beta2 a b).num.natAbs * a) := Nat.div_le_div_right (Nat.mul_le_mul_right _ k3.1)
  have k31 := k3.1
  have k32 := k3.2.1
  have k33 := k3.2.2
  have hw25 : 2 ^ (w + 25) = 2 ^ w * 33554432 := by rw [Nat.pow_add]
  unfold fstR
  generalize hb2' : beta2 a b = be2 at *
  generalize hn2 : be2.den * 2 = D2 at *
  generalize hd2 : be2.num.natAbs * a = N2 at *
  generalize M1 * D2 / N2 = U1 at *
  generalize hU2 : M2 * D2 / N2 + 1 = U2 at *
  have gap : U2 ≤ U1 + 8589934592 := by omega
  have top : U2 ≤ 2097152 * 2 ^ w := by omega
  have hw46 : 2 ^ (w + 22) = 2097152 * 2 * 2 ^ w := by rw [Nat.pow_add, Nat.mul_comm]
  have lu2 := lim_len_p2 (n := U2) (w := w + 22) (by omega) (by omega)
  have lu1 := lim_len_mono (show U1 ≤ U2 by omega)
  by_cases hpi : a % 2 * (b % 2) = 1
  · obtain ⟨A, fp, g1, g2, g3, g4⟩ := arcs_Pi2 (p := w) hw0 hw
    generalize PI0 = W0 at *
    have u1 := unN_exact A w
    have u2 := unN_exact (A + 1) w
    have sA : szR (mkRat (A : Int) (2 ^ w)) 45 ∧ szR (mkRat ((A + 1 : Nat) : Int) (2 ^ w)) 45 := by
      have hb3 : 2 ^ (w + 3) = 8 * 2 ^ w := by rw [Nat.pow_add, Nat.mul_comm]
      have x1 := lim_len_p2 (n := A) (w := w + 3) (by omega) (by omega)
      have x2 := lim_len_p2 (n := A + 1) (w := w + 3) (by omega) (by omega)
      have x3 := lim_len_p2 (n := 2 ^ w) (w := w) (Nat.le_refl _) (by omega)
      exact ⟨szR_nat (by omega) (by omega) (by omega), szR_nat (by omega) (by omega) (by omega)⟩
    have bl := fix_Ball (w := w) sA.1 sA.2 (by omega) (by omega)
    rw [u1, u2] at bl
    have hb3 : 2 ^ (w + 3) = 8 * 2 ^ w := by rw [Nat.pow_add, Nat.mul_comm]
    have x1 := lim_len_p2 (n := A) (w := w + 3) (by omega) (by omega)
    have x2 := lim_len_p2 (n := A + 1 + 1) (w := w + 3) (by omega) (by omega)
    have iv := fix_Inverse (a := A) (b := A + 1 + 1) (w := w) (by omega) (by omega) (by omega) (by omega) (by omega)
    have pp : 2 ^ (2 * w) = 2 ^ w * 2 ^ w := by rw [← Nat.pow_add, show 2 * w = w + w by omega]
    have ig := inv_gap (P := 2 ^ w) (a := A) (by omega) g3
    have ePi : Enc w A (A + 1 + 1) W0 := ⟨g1, Rat.le_trans g2 (nat_le_rat (Nat.le_succ (A + 1)))⟩
    have ei := (enc_inv (show 0 < A by omega) ePi).1
    rw [pp] at iv ei
    rw [show A + 2 = A + 1 + 1 from rfl] at ig
    obtain ⟨t1, t2, t3⟩ := gap_mul (T := 2097152) (g := 8589934592) (by omega) (show U1 ≤ U2 by omega) gap top ig
    obtain ⟨li1, li2⟩ := okS_len ig (by omega) (show w ≤ 900 by omega) (by omega)
    have mu2 := fix_Mul (a := U1) (b := U2) (c := 2 ^ w * 2 ^ w / (A + 1 + 1)) (d := 2 ^ w * 2 ^ w / A + 1) (w := w) (by omega) (by omega) (by omega) (by omega) (by omega) (by omega)
    have ef := fun sx sy (u1 : p1 ≤ sx) (u2 : sx ≤ p2') (v1 : q1 ≤ sy) (v2 : sy ≤ q2) => enc_mul (et sx sy u1 u2 v1 v2) ei
    have be' : Go.Ev.Fn CX 243 [.int .i64 (a : Int), .int .i64 (b : Int)] (.tup [rv be2, .int .i64 1, .bool true]) := by
      rw [hpi] at be
      exact be
    refine ⟨U1 * (2 ^ w * 2 ^ w / (A + 1 + 1)) / 2 ^ w, U2 * (2 ^ w * 2 ^ w / A + 1) / 2 ^ w + 1, p1, p2', q1, q2, ?_, t1, by omega, by omega, a1, a0, a2, a3, b1, b0, b2, b3, ?_⟩
    · clear ex ey em et be ef ei ePi g1 g2 t1 t2 t3 ig
      generalize U1 * (2 ^ w * 2 ^ w / (A + 1 + 1)) / 2 ^ w = W1 at *
      generalize U2 * (2 ^ w * 2 ^ w / A + 1) / 2 ^ w + 1 = W2 at *
      generalize 2 ^ w * 2 ^ w / (A + 1 + 1) = I1 at *
      generalize 2 ^ w * 2 ^ w / A + 1 = I2 at *
      generalize mkRat (A : Int) (2 ^ w) = r1 at *
      generalize mkRat ((A + 1 : Nat) : Int) (2 ^ w) = r2 at *
      generalize 1 - x = y at *
      refine Go.Ev.Fn.intro (fn := Tryz.f233) (body := (Tryz.f233).body.get!) (by kernel_rfl) (by kernel_rfl) (by kernel_rfl) (fun _ => rfl) (Nat.le_of_ble_eq_true (by kernel_rfl)) ?_; unfold Tryz.f233; simp only [Option.get!_some]
      repeat (first | (simp only [go_sem]) | (simp (disch := (first | omega | (simp only [AL, List.length_map]; omega))) only [AR, AL, ifT, ifF, take_all, List.length_cons, List.length_nil, Int.reduceToNat, Int.reducePow, Nat.reducePow]) | (refine wk_intro (by kernel_rfl) ?_) | (refine vp_draw (id := 1) (l := []) (by kernel_rfl) ?_) | (refine vp_draw (id := 3) (l := [34, 35, 38, 41, 36, 42]) (by kernel_rfl) ?_) | (refine vp_draw (id := 5) (l := []) (by kernel_rfl) ?_) | (refine vf_of (by first | exact f1 | exact i1 | exact sb | exact f2 | exact mu | exact be' | exact o2 | exact m1 | exact oa | exact m2 | exact ti | exact fp | exact bl | exact iv | exact mu2) ?_))
    · intro sx sy v1 v2 v3 v4
      rw [if_pos hpi]
      exact ef sx sy v1 v2 v3 v4
  · have be' : Go.Ev.Fn CX 243 [.int .i64 (a : Int), .int .i64 (b : Int)] (.tup [rv be2, .int .i64 0, .bool true]) := by
      have : a % 2 * (b % 2) = 0 := by
        have x1 : a % 2 ≤ 1 := by omega
        have x2 : b % 2 ≤ 1 := by omega
        have := Nat.mul_le_mul x1 x2
        omega
      rw [this] at be
      exact be
    refine ⟨U1, U2, p1, p2', q1, q2, ?_, by omega, by omega, by omega, a1, a0, a2, a3, b1, b0, b2, b3, ?_⟩
    · clear ex ey em et be
      generalize 1 - x = y at *
      refine Go.Ev.Fn.intro (fn := Tryz.f233) (body := (Tryz.f233).body.get!) (by kernel_rfl) (by kernel_rfl) (by kernel_rfl) (fun _ => rfl) (Nat.le_of_ble_eq_true (by kernel_rfl)) ?_; unfold Tryz.f233; simp only [Option.get!_some]
      repeat (first | (simp only [go_sem]) | (simp (disch := (first | omega | (simp only [AL, List.length_map]; omega))) only [AR, AL, ifT, ifF, take_all, List.length_cons, List.length_nil, Int.reduceToNat, Int.reducePow, Nat.reducePow]) | (refine wk_intro (by kernel_rfl) ?_) | (refine vp_draw (id := 1) (l := []) (by kernel_rfl) ?_) | (refine vp_draw (id := 3) (l := [34, 35, 38, 41, 36, 42]) (by kernel_rfl) ?_) | (refine vp_draw (id := 5) (l := []) (by kernel_rfl) ?_) | (refine vf_of (by first | exact f1 | exact i1 | exact sb | exact f2 | exact mu | exact be' | exact o2 | exact m1 | exact oa | exact m2 | exact ti) ?_))
    · intro sx sy v1 v2 v3 v4
      rw [if_neg hpi, Rat.mul_one]
      exact et sx sy v1 v2 v3 v4
end Go.Proofs.YtecjelnpmcnbaaaGreat
namespace Go.Proofs.YtecjelnpmcnbaaaGreat
open Go.Ev
section
variable {x : Rat} {a b w F1 F2 : Nat}
theorem half_units (h0 : 0 ≤ x) (h1 : x + x ≤ 1) : 2 * unN x w ≤ 2 ^ w := by
  have h2 : 2 * x.num.natAbs ≤ x.den := by
    have := num_den x
    have d0 : (0 : Rat) < (x.den : Rat) := by exact_mod_cast x.den_pos
    have h3 := Rat.mul_le_mul_of_nonneg_right h1 (show (0 : Rat) ≤ (x.den : Rat) by grind)
    have h4 : (x.num : Rat) + (x.num : Rat) ≤ (x.den : Rat) := by grind
    have h5 : ((x.num + x.num : Int) : Rat) ≤ (((x.den : Nat) : Int) : Rat) := by rw [Rat.intCast_add]; exact h4
    have h6 := Rat.intCast_le_intCast.1 h5
    have h7 := Rat.num_nonneg.2 h0
    omega
  have h3 := Nat.div_mul_le_self (x.num.natAbs * 2 ^ w) x.den
  have h4 := Nat.mul_le_mul_right (2 ^ w) h2
  have h5 : 2 * unN x w * x.den ≤ 2 ^ w * x.den := by
    have e1 : 2 * unN x w * x.den = 2 * (x.num.natAbs * 2 ^ w / x.den * x.den) := by rw [Nat.mul_assoc]
    have e2 : 2 * x.num.natAbs * 2 ^ w = 2 * (x.num.natAbs * 2 ^ w) := by rw [Nat.mul_assoc]
    rw [Nat.mul_comm (2 ^ w)]
    omega
  exact Nat.le_of_mul_le_mul_right h5 x.den_pos
theorem fst_ok (h1 : F1 ≤ F2) (h2 : F2 ≤ F1 + 2 ^ 45) (h3 : F2 ≤ 2 ^ (w + 25)) : okK w b (2 ^ (w + 25)) (2 ^ 69) 0 F1 F2 F1 F2 := by
  unfold okK
  rw [Nat.zero_min, Nat.pow_zero, Nat.one_mul, Nat.one_mul]
  refine ⟨?_, ?_, ?_, ?_, ?_, ?_⟩ <;> omega
theorem rowC_le (hb2 : b ≤ 20) : 4 ^ b * 2 ^ (w + 25) ≤ 2 ^ 65 * 2 ^ w ∧ 4 ^ b * 2 ^ 69 ≤ 2 ^ 109 := by
  have h40 : 4 ^ b ≤ 4 ^ 20 := Nat.pow_le_pow_right (by omega) hb2
  have hp : 2 ^ (w + 25) = 2 ^ 25 * 2 ^ w := by rw [Nat.pow_add, Nat.mul_comm]
  constructor
  · rw [hp, ← Nat.mul_assoc]
    exact Nat.mul_le_mul_right _ (Nat.le_trans (Nat.mul_le_mul_right _ h40) (by decide))
  · exact Nat.le_trans (Nat.mul_le_mul_right _ h40) (by decide)
theorem rowh_ends (ha : 1 ≤ a) (hb2 : b ≤ 20) (h0 : 0 ≤ x) (h1 : x + x ≤ 1) (hw0 : 60 ≤ w) (hw : w ≤ 540) (g1 : F1 ≤ F2) (g2 : F2 ≤ F1 + 2 ^ 45) (g3 : F2 ≤ 2 ^ (w + 25)) : ∃ A B K, rowGo w (unN x w) (unN x w + 1) a b 2201 0 F1 F2 F1 F2 = some (A, B, K) := by
  have hP : 2 ^ 60 ≤ 2 ^ w := Nat.pow_le_pow_right (n := 2) (by omega) hw0
  have hy := half_units (w := w) h0 h1
  have ok := fst_ok (b := b) g1 g2 g3
  unfold okK at ok
  rw [Nat.zero_min, Nat.pow_zero, Nat.one_mul, Nat.one_mul] at ok
  have hC := (rowC_le (w := w) hb2).1
  have hp : 2 ^ (w + 25) = 2 ^ w * 33554432 := by rw [Nat.pow_add]
  have hF : 4 ^ 2000 * (4 ^ b * 2 ^ (w + 25)) < 8 * 5 ^ 2000 := by
    obtain ⟨E, hE⟩ : ∃ E : Nat, E = 620 := ⟨_, rfl⟩
    have h49 : 2 ^ 65 * 2 ^ w ≤ 2 ^ E := by rw [← Nat.pow_add]; exact Nat.pow_le_pow_right (by omega) (by omega)
    obtain ⟨N4, hN4⟩ : ∃ N, N = 4 ^ 2000 := ⟨_, rfl⟩
    obtain ⟨N5, hN5⟩ : ∃ N, N = 5 ^ 2000 := ⟨_, rfl⟩
    rw [← hN4, ← hN5]
    have hk : N4 * 2 ^ E < 8 * N5 := by rw [hN4, hN5, hE]; decide +kernel
    exact Nat.lt_of_le_of_lt (Nat.mul_le_mul_left _ (Nat.le_trans hC h49)) hk
  exact row_early (a := a) (b := b) (F := 2000) (C := 2 ^ 65) (by omega) rfl hy ha hb2 b 0 _ _ _ _ _ _ (by omega) (by omega) hC (by decide) hF ok
theorem rowh_bd {A B K : Nat} (ha : 1 ≤ a) (hb2 : b ≤ 20) (h0 : 0 ≤ x) (h1 : x + x ≤ 1) (hw0 : 60 ≤ w) (g1 : F1 ≤ F2) (g2 : F2 ≤ F1 + 2 ^ 45) (g3 : F2 ≤ 2 ^ (w + 25))
    (hg : rowGo w (unN x w) (unN x w + 1) a b 2201 0 F1 F2 F1 F2 = some (A, B, K)) : A ≤ B ∧ B ≤ A + 2 ^ 121 ∧ B ≤ 2 ^ (w + 77) := by
  have hP : 2 ^ 60 ≤ 2 ^ w := Nat.pow_le_pow_right (n := 2) (by omega) hw0
  have hp : 2 ^ (w + 25) = 2 ^ w * 33554432 := by rw [Nat.pow_add]
  obtain ⟨hC, hD⟩ := rowC_le (w := w) hb2
  obtain ⟨i1, i2, i3, i4⟩ := row_inv (a := a) (b := b) (C := 2 ^ 65) (by omega) rfl (half_units (w := w) h0 h1) ha hb2 (by omega) hC (by decide) 2201 0 _ _ _ _ hg (fst_ok g1 g2 g3)
  have b1 : (K + 1) * (4 ^ b * 2 ^ 69) ≤ 2201 * 2 ^ 109 := Nat.mul_le_mul (by omega) hD
  have b2 : (K + 1) * (4 ^ b * 2 ^ (w + 25)) ≤ 2201 * (2 ^ 65 * 2 ^ w) := Nat.mul_le_mul (by omega) hC
  have b3 : 2 ^ (w + 77) = 4096 * (2 ^ 65 * 2 ^ w) := by rw [show w + 77 = 12 + (65 + w) by omega, Nat.pow_add 2 12, Nat.pow_add 2 65]
  have b4 : 64 ≤ 2 ^ 65 * 2 ^ w := Nat.le_trans (by decide) (Nat.le_mul_of_pos_right (2 ^ 65) (by omega))
  omega
set_option maxHeartbeats 1000000 in
theorem incb_rowh {L A' B' K : Nat} (ha : 1 ≤ a) (ha2 : a ≤ 20) (hb : 1 ≤ b) (hb2 : b ≤ 20) (hz : szR x L) (hL : L ≤ 300) (h0 : 0 ≤ x) (h1 : x + x ≤ 1) (hw0 : 60 ≤ w) (hw : w ≤ 540)
    (fi : Go.Ev.Fn CX 233 [.int .i64 (a : Int), .int .i64 (b : Int), rv x, .int .i64 (w : Int)] (spanV F1 F2)) (g1 : F1 ≤ F2) (g2 : F2 ≤ F1 + 2 ^ 45) (g3 : F2 ≤ 2 ^ (w + 25))
    (hg : rowGo w (unN x w) (unN x w + 1) a b 2201 0 F1 F2 F1 F2 = some (A', B', K)) :
    Go.Ev.Fn CX 202 [.int .i64 (a : Int), .int .i64 (b : Int), rv x, .int .i64 (w : Int)] (spanV A' B') := by
  have hP : 2 ^ 60 ≤ 2 ^ w := Nat.pow_le_pow_right (n := 2) (by omega) hw0
  have hp25 : 2 ^ (w + 25) = 2 ^ w * 33554432 := by rw [Nat.pow_add]
  have hy := half_units (w := w) h0 h1
  have r : Go.Ev.Fn CX 228 [rv x, .int .i64 (w : Int)] (spanV (unN x w) (unN x w + 1)) := fix_Rat hz (by omega) (w := w) (by omega)
  obtain ⟨ly1, ly2⟩ := unN_len1 h0 (show x ≤ 1 by clear r hy; grind) (show w ≤ 900 by omega)
  have ok := fst_ok (b := b) g1 g2 g3
  have hC := (rowC_le (w := w) hb2).1
  have e65 : 2 ^ (w + 65) = 2 ^ 65 * 2 ^ w := by rw [Nat.pow_add, Nat.mul_comm]
  have step := fun (k t1 t2 a1 a2 : Nat) (h : okK w b (2 ^ (w + 25)) (2 ^ 69) k t1 t2 a1 a2) => okK_step (a := a) (y1 := unN x w) (y2 := unN x w + 1) (C := 2 ^ 65) (by omega) rfl hy ha hb2 (by omega) hC (by decide) h
  have lens := fun (k t1 t2 a1 a2 : Nat) (hk : k ≤ 2201) (h : okK w b (2 ^ (w + 25)) (2 ^ 69) k t1 t2 a1 a2) => (show (lim t1).length ≤ 40 ∧ (lim t2).length ≤ 40 ∧ (lim a1).length ≤ 40 ∧ (lim a2).length ≤ 40 from by
    obtain ⟨q1, q2, q3, q4, q5, q6⟩ := h
    have f := (four_le (k := k) (b := b) (T := 2 ^ (w + 25))).2
    have b1 : (k + 1) * (4 ^ min k b * 2 ^ (w + 25)) ≤ 4096 * 2 ^ (w + 65) := Nat.mul_le_mul (by omega) (Nat.le_trans f (by rw [e65]; exact hC))
    have b2 : 4096 * 2 ^ (w + 65) = 2 ^ (w + 77) := by rw [show w + 77 = 12 + (w + 65) by omega, Nat.pow_add 2 12]
    have b3 : 2 ^ (w + 65) ≤ 2 ^ (w + 77) := Nat.pow_le_pow_right (by omega) (by omega)
    have b5 : 4 ^ min k b * 2 ^ (w + 25) ≤ 2 ^ (w + 65) := Nat.le_trans f (by rw [e65]; exact hC)
    exact ⟨lim_len_p2 (w := w + 77) (by omega) (by omega), lim_len_p2 (w := w + 77) (by omega) (by omega), lim_len_p2 (w := w + 77) (by omega) (by omega), lim_len_p2 (w := w + 77) (by omega) (by omega)⟩)
  generalize unN x w = y1 at *
  clear hz h0 h1
  refine Go.Ev.Fn.intro (fn := Tryz.f202) (body := (Tryz.f202).body.get!) (by kernel_rfl) (by kernel_rfl) (by kernel_rfl) (fun _ => rfl) (Nat.le_of_ble_eq_true (by kernel_rfl)) ?_; unfold Tryz.f202; simp only [Option.get!_some]
  repeat (first | (simp only [go_sem]) | (simp (disch := (first | omega | (simp only [AL, List.length_map]; omega))) only [AR, AL, ifT, ifF, take_all, List.length_cons, List.length_nil, Int.reduceToNat, Int.reducePow, Nat.reducePow]) | (refine wk_intro (by kernel_rfl) ?_) | (refine vf_of (by first | exact r | exact fi) ?_))
  refine vp_loop_inv (fun s => s.tmp 0 = .sv (.int .i64 (a : Int)) ∧ s.tmp 1 = .sv (.int .i64 (b : Int)) ∧ s.tmp 3 = .sv (.int .i64 (w : Int)) ∧ s.tmp 8 = .ptr 8 0 0 ∧ s.obj 8 0 = some [.sl 0 [], .sl 0 []] ∧ s.tmp 9 = .ptr 9 0 0 ∧ s.obj 9 0 = some [natV (lim y1), natV (lim (y1 + 1))] ∧ s.tmp 10 = .ptr 10 0 0 ∧ s.tmp 11 = .ptr 11 0 0 ∧
      ∃ f k t1 t2 a1 a2 : Nat, s.tmp 12 = .sv (.int .i64 (k : Int)) ∧ f + k = 2201 ∧ rowGo w y1 (y1 + 1) a b f k t1 t2 a1 a2 = some (A', B', K) ∧ s.obj 10 0 = some [natV (lim t1), natV (lim t2)] ∧ s.obj 11 0 = some [natV (lim a1), natV (lim a2)] ∧
        okK w b (2 ^ (w + 25)) (2 ^ 69) k t1 t2 a1 a2)
    (fun s => match s.tmp 12 with | .sv (.int _ i) => 2202 - i.toNat | _ => 0) ⟨rfl, rfl, rfl, rfl, rfl, rfl, rfl, rfl, rfl, 2201, 0, F1, F2, F1, F2, rfl, rfl, hg, rfl, rfl, ok⟩ ?_
  rintro s ⟨i0, i1, i3, i8, o8, i9, o9, i10, i11, f, k, t1, t2, a1, a2, i12, hfk, hgo, o10, o11, hok⟩
  obtain ⟨lt1, lt2, la1, la2⟩ := lens k t1 t2 a1 a2 (by omega) hok
  have st := step k t1 t2 a1 a2 hok
  have sm := fix_Small (a := t1) (b := t2) (by omega) (k := 3) (by omega)
  clear hP hp25 e65 hC g1 g2 g3
  cases f with
  | zero => simp only [rowGo] at hgo; cases hgo
  | succ f =>
    rw [rowGo] at hgo
    by_cases hs : b ≤ k ∧ t2 < 8
    · rw [if_pos hs] at hgo
      simp only [Option.some.injEq, Prod.mk.injEq] at hgo
      obtain ⟨rfl, rfl, rfl⟩ := hgo
      rw [decide_eq_true (show t2 < 2 ^ 3 from hs.2)] at sm
      have hs1 := hs.1
      have wd := fix_Wider (a := a1) (b := a2) (n := 64) (by omega) (by omega) (by omega)
      clear step lens st hs hg
      repeat (first | (simp only [go_sem, i0, i1, i3, i8, o8, i9, o9, i10, i11, i12, o10, o11, Bool.not_true]) | (simp (disch := (first | omega | (simp only [AL, List.length_map]; omega))) only [AR, AL, ifT, ifF, take_all, List.length_cons, List.length_nil, Int.reduceToNat, Int.reducePow, Nat.reducePow, i0, i1, i3, i8, o8, i9, o9, i10, i11, i12, o10, o11, Bool.not_true]) | (refine wk_intro (by kernel_rfl) ?_) | (refine vf_of (by first | exact sm | exact wd) ?_))
    · rw [if_neg hs] at hgo
      obtain ⟨lu1, lu2, lb1, lb2⟩ := lens (k + 1) _ _ _ _ (by omega) st
      have mu := fix_Mul (a := t1) (b := t2) (c := y1) (d := y1 + 1) (w := w) (by omega) (by omega) (by omega) (by omega) (by omega) (by omega)
      have q1 := nat_Of (a + b + 2 * k) (by omega)
      have q2 := nat_Of (a + 2 + 2 * k) (by omega)
      have lq1 : (lim (a + b + 2 * k)).length ≤ 1 := lim_len_one (by omega)
      have lq2 : (lim (a + 2 + 2 * k)).length ≤ 1 := lim_len_one (by omega)
      have z1 := lim_len_mul (a := t1) (b := y1)
      have z2 := lim_len_mul (a := t2) (b := y1 + 1)
      have z3 := lim_len_mono (Nat.div_le_self (t1 * y1) (2 ^ w))
      have l1 := lim_len1
      have z4 := lim_len_add (a := t2 * (y1 + 1) / 2 ^ w) (b := 1) (L := 200) (Nat.le_trans (lim_len_mono (Nat.div_le_self (t2 * (y1 + 1)) (2 ^ w))) (by omega)) (by omega)
      have ti := fix_Times (a := t1 * y1 / 2 ^ w) (b := t2 * (y1 + 1) / 2 ^ w + 1) (n := a + b + 2 * k) (d := a + 2 + 2 * k) (by omega) (by omega) (by omega) (by omega) (by omega)
      rw [show ((a + b + 2 * k : Nat) : Int) = (a : Int) + (b : Int) + 2 * (k : Int) by omega] at q1
      rw [show ((a + 2 + 2 * k : Nat) : Int) = (a : Int) + 2 + 2 * (k : Int) by omega] at q2
      generalize t1 * y1 / 2 ^ w * (a + b + 2 * k) / (a + 2 + 2 * k) = u1 at *
      generalize (t2 * (y1 + 1) / 2 ^ w + 1) * (a + b + 2 * k) / (a + 2 + 2 * k) + 1 = u2 at *
      generalize t1 * y1 / 2 ^ w = v1 at *
      generalize t2 * (y1 + 1) / 2 ^ w + 1 = v2 at *
      have ad := fix_Add (a := a1) (b := a2) (c := u1) (d := u2) (by omega) (by omega) (by omega) (by omega)
      clear step lens hg
      by_cases hk : b ≤ k
      · rw [decide_eq_false (show ¬ t2 < 2 ^ 3 from fun h => hs ⟨hk, h⟩)] at sm
        repeat (first | (simp only [go_sem, i0, i1, i3, i8, o8, i9, o9, i10, i11, i12, o10, o11, Bool.not_false]) | (simp (disch := (first | omega | (simp only [AL, List.length_map]; omega))) only [AR, AL, ifT, ifF, take_all, List.length_cons, List.length_nil, Int.reduceToNat, Int.reducePow, Nat.reducePow, i0, i1, i3, i8, o8, i9, o9, i10, i11, i12, o10, o11, Bool.not_false]) | (refine wk_intro (by kernel_rfl) ?_) | (refine vf_of (by first | exact sm | exact mu | exact q1 | exact q2 | exact ti | exact ad) ?_))
        exact ⟨⟨f, k + 1, u1, u2, a1 + u1, a2 + u2, rfl, by omega, hgo, rfl, rfl, st⟩, by omega⟩
      · repeat (first | (simp only [go_sem, i0, i1, i3, i8, o8, i9, o9, i10, i11, i12, o10, o11]) | (simp (disch := (first | omega | (simp only [AL, List.length_map]; omega))) only [AR, AL, ifT, ifF, take_all, List.length_cons, List.length_nil, Int.reduceToNat, Int.reducePow, Nat.reducePow, i0, i1, i3, i8, o8, i9, o9, i10, i11, i12, o10, o11]) | (refine wk_intro (by kernel_rfl) ?_))
        repeat (first | (simp only [go_sem, i0, i1, i3, i8, o8, i9, o9, i10, i11, i12, o10, o11]) | (simp (disch := (first | omega | (simp only [AL, List.length_map]; omega))) only [AR, AL, ifT, ifF, take_all, List.length_cons, List.length_nil, Int.reduceToNat, Int.reducePow, Nat.reducePow, i0, i1, i3, i8, o8, i9, o9, i10, i11, i12, o10, o11]) | (refine wk_intro (by kernel_rfl) ?_) | (refine vf_of (by first | exact mu | exact q1 | exact q2 | exact ti | exact ad) ?_))
        exact ⟨⟨f, k + 1, u1, u2, a1 + u1, a2 + u2, rfl, by omega, hgo, rfl, rfl, st⟩, by omega⟩
end
end Go.Proofs.YtecjelnpmcnbaaaGreat
namespace Go.Proofs.YtecjelnpmcnbaaaGreat
open Go.Ev
section
variable {a b c d : Rat} {L M : Nat}
end
end Go.Proofs.YtecjelnpmcnbaaaGreat
namespace Go.Proofs.YtecjelnpmcnbaaaGreat
open Go.Ev
end Go.Proofs.YtecjelnpmcnbaaaGreat
namespace Go.Proofs.YtecjelnpmcnbaaaGreat
open Go.Ev
end Go.Proofs.YtecjelnpmcnbaaaGreat
namespace Go.Proofs.YtecjelnpmcnbaaaGreat
open Go.Ev
section
variable {w s1 s2 : Nat}
end
end Go.Proofs.YtecjelnpmcnbaaaGreat
namespace Go.Proofs.YtecjelnpmcnbaaaGreat
open Go.Ev
section
variable {w a b c d : Nat} {q r : Rat}
theorem num_abs (h0 : 0 ≤ q) : ((q.num.natAbs : Nat) : Int) = q.num := Int.natAbs_of_nonneg (Rat.num_nonneg.2 h0)
end
section
variable {v : SV} {q : Rat} {w L n : Nat}
end
end Go.Proofs.YtecjelnpmcnbaaaGreat
namespace Go.Proofs.YtecjelnpmcnbaaaGreat
open Go.Ev
section
variable {w y1 y2 a b : Nat} {x : Rat}
end
end Go.Proofs.YtecjelnpmcnbaaaGreat
namespace Go.Proofs.YtecjelnpmcnbaaaGreat
open Go.Ev
end Go.Proofs.YtecjelnpmcnbaaaGreat
namespace Go.Proofs.YtecjelnpmcnbaaaGreat
open Go.Ev
end Go.Proofs.YtecjelnpmcnbaaaGreat
namespace Go.Proofs.YtecjelnpmcnbaaaGreat
open Go.Ev
section
variable {v : SV} {x : Rat} {w L a b : Nat}
end
end Go.Proofs.YtecjelnpmcnbaaaGreat
namespace Go.Ex
def mulu (d : Rat) (g : Nat → Rat) : Nat → Rat
  | 0 => d * g 0
  | k + 1 => d * g (k + 1) + g k
def dvu (d : Rat) (f : Nat → Rat) : Nat → Rat
  | 0 => f 0 / d
  | k + 1 => (f (k + 1) - dvu d f k) / d
theorem mul_div (d x : Rat) (hd : d ≠ 0) : d * (x / d) = x := by rw [Rat.mul_comm]; exact Rat.div_mul_cancel hd
theorem mulu_dvu {d : Rat} (hd : d ≠ 0) (f : Nat → Rat) : ∀ k, mulu d (dvu d f) k = f k
  | 0 => mul_div d _ hd
  | k + 1 => by
    show d * ((f (k + 1) - dvu d f k) / d) + dvu d f k = _
    rw [mul_div d _ hd]; grind
theorem dvu_uniq {d : Rat} (hd : d ≠ 0) {f g : Nat → Rat} (h : ∀ k, mulu d g k = f k) : ∀ k, g k = dvu d f k
  | 0 => by
    have := h 0
    show g 0 = f 0 / d
    rw [← this]
    show g 0 = d * g 0 / d
    rw [Rat.mul_comm]; exact (Rat.mul_div_cancel hd).symm
  | k + 1 => by
    have e := h (k + 1)
    have ih := dvu_uniq hd h k
    show g (k + 1) = (f (k + 1) - dvu d f k) / d
    rw [← ih, ← e]
    show g (k + 1) = (d * g (k + 1) + g k - g k) / d
    rw [show d * g (k + 1) + g k - g k = g (k + 1) * d by grind]
    exact (Rat.mul_div_cancel hd).symm
theorem dvu_congr {d : Rat} {f g : Nat → Rat} (h : ∀ k, f k = g k) : ∀ k, dvu d f k = dvu d g k
  | 0 => by show f 0 / d = g 0 / d; rw [h]
  | k + 1 => by show (f (k + 1) - dvu d f k) / d = (g (k + 1) - dvu d g k) / d; rw [h, dvu_congr h k]
theorem mulu_comm (d e : Rat) (g : Nat → Rat) : ∀ k, mulu d (mulu e g) k = mulu e (mulu d g) k
  | 0 => by show d * (e * g 0) = e * (d * g 0); grind
  | 1 => by show d * (e * g 1 + g 0) + e * g 0 = e * (d * g 1 + g 0) + d * g 0; grind
  | k + 2 => by show d * (e * g (k + 2) + g (k + 1)) + (e * g (k + 1) + g k) = e * (d * g (k + 2) + g (k + 1)) + (d * g (k + 1) + g k); grind
theorem mulu_congr {d : Rat} {f g : Nat → Rat} (h : ∀ k, f k = g k) : ∀ k, mulu d f k = mulu d g k
  | 0 => by show d * f 0 = d * g 0; rw [h]
  | k + 1 => by show d * f (k + 1) + f k = d * g (k + 1) + g k; rw [h, h]
theorem dvu_comm {d e : Rat} (hd : d ≠ 0) (he : e ≠ 0) (f : Nat → Rat) (k : Nat) : dvu d (dvu e f) k = dvu e (dvu d f) k := by
  refine dvu_uniq he (fun k => dvu_uniq hd (fun k => ?_) k) k
  rw [mulu_comm]
  have h1 : ∀ k, mulu d (dvu d (dvu e f)) k = dvu e f k := mulu_dvu hd _
  rw [mulu_congr h1]
  exact mulu_dvu he f k
def ser (j : Nat) : List Nat → Nat → Rat
  | [], k => if k = 0 then 1 else 0
  | s :: M, k => if s = j then ser j M k else dvu ((j : Rat) - (s : Rat)) (ser j M) k
theorem nat_inj {a b : Nat} (h : (a : Rat) = (b : Rat)) : a = b := by exact_mod_cast h
theorem sub_ne {j s : Nat} (h : s ≠ j) : (j : Rat) - (s : Rat) ≠ 0 := by
  intro e
  exact h (nat_inj (show (s : Rat) = (j : Rat) by grind))
theorem ser_perm (j : Nat) {M M' : List Nat} (h : M.Perm M') : ∀ k, ser j M k = ser j M' k := by
  induction h with
  | nil => intro k; rfl
  | cons s _ ih =>
    intro k
    unfold ser
    split
    · exact ih k
    · exact dvu_congr ih k
  | swap s t M =>
    intro k
    by_cases h1 : s = j <;> by_cases h2 : t = j
    · simp only [ser, if_pos h1, if_pos h2]
    · simp only [ser, if_pos h1, if_neg h2]
    · simp only [ser, if_neg h1, if_pos h2]
    · simp only [ser, if_neg h1, if_neg h2]
      exact dvu_comm (sub_ne h2) (sub_ne h1) _ k
  | trans _ _ ih1 ih2 => intro k; rw [ih1, ih2]
def coef (j : Nat) (M : List Nat) (i : Nat) : Rat := if i < M.count j then ser j M (M.count j - 1 - i) else 0
theorem coef_same {s : Nat} {M : List Nat} (i : Nat) : coef s (s :: M) (i + 1) = coef s M i := by
  unfold coef
  rw [List.count_cons_self]
  by_cases h : i < M.count s
  · rw [if_pos h, if_pos (by omega)]
    simp only [ser, if_pos]
    rw [show M.count s + 1 - 1 - (i + 1) = M.count s - 1 - i by omega]
  · rw [if_neg h, if_neg (by omega)]
theorem coef_other {j s : Nat} {M : List Nat} (h : s ≠ j) (i : Nat) : ((j : Rat) - (s : Rat)) * coef j (s :: M) i + coef j (s :: M) (i + 1) = coef j M i := by
  unfold coef
  rw [List.count_cons_of_ne h]
  have key := mulu_dvu (sub_ne h) (ser j M)
  by_cases h1 : i + 1 < M.count j
  · rw [if_pos h1, if_pos (by omega), if_pos (by omega)]
    obtain ⟨k, hk⟩ : ∃ k, M.count j - 1 - i = k + 1 := ⟨M.count j - 2 - i, by omega⟩
    rw [show M.count j - 1 - (i + 1) = k by omega, hk, ← key (k + 1)]
    simp only [ser, if_neg h]
    rfl
  · rw [if_neg h1]
    by_cases h2 : i < M.count j
    · rw [if_pos h2, if_pos h2, show M.count j - 1 - i = 0 by omega, ← key 0]
      simp only [ser, if_neg h]
      rw [Rat.add_zero]; rfl
    · rw [if_neg h2, if_neg h2]; grind
def bin : Nat → Nat → Nat
  | _, 0 => 1
  | 0, _ + 1 => 0
  | m + 1, i + 1 => bin m i + bin m (i + 1)
theorem bin_big : ∀ m i, m < i → bin m i = 0
  | 0, i + 1, _ => rfl
  | m + 1, i + 1, h => by
    show bin m i + bin m (i + 1) = 0
    rw [bin_big m i (by omega), bin_big m (i + 1) (by omega)]
def bw (j : Rat) (m i : Nat) : Rat := (bin m i : Rat) * j ^ (m - i)
theorem bw_zero (j : Rat) (m : Nat) : bw j (m + 1) 0 = j * bw j m 0 := by
  show ((bin (m + 1) 0 : Nat) : Rat) * j ^ (m + 1) = j * (((bin m 0 : Nat) : Rat) * j ^ m)
  have e1 : bin (m + 1) 0 = 1 := by cases m <;> rfl
  have e2 : bin m 0 = 1 := by cases m <;> rfl
  rw [e1, e2, Rat.pow_succ]; grind
theorem bw_succ (j : Rat) (m i : Nat) : bw j (m + 1) (i + 1) = j * bw j m (i + 1) + bw j m i := by
  show ((bin m i + bin m (i + 1) : Nat) : Rat) * j ^ (m + 1 - (i + 1)) = j * (((bin m (i + 1) : Nat) : Rat) * j ^ (m - (i + 1))) + ((bin m i : Nat) : Rat) * j ^ (m - i)
  have e : ((bin m i + bin m (i + 1) : Nat) : Rat) = (bin m i : Rat) + (bin m (i + 1) : Rat) := by exact_mod_cast rfl
  rw [e, show m + 1 - (i + 1) = m - i by omega]
  by_cases h : i + 1 ≤ m
  · rw [show m - i = m - (i + 1) + 1 by omega, Rat.pow_succ]; grind
  · rw [bin_big m (i + 1) (by omega)]
    have : ((0 : Nat) : Rat) = 0 := rfl
    rw [this]; grind
def gs (j : Rat) (a : Nat → Rat) (m : Nat) : Nat → Rat
  | 0 => 0
  | c + 1 => gs j a m c + a c * bw j m c
theorem gs_congr {j : Rat} {a a' : Nat → Rat} {m : Nat} : ∀ c, (∀ i, i < c → a i = a' i) → gs j a m c = gs j a' m c
  | 0, _ => rfl
  | c + 1, h => by
    show gs j a m c + a c * _ = gs j a' m c + a' c * _
    rw [gs_congr c (fun i hi => h i (by omega)), h c (by omega)]
theorem gs_shift (j s : Rat) (a : Nat → Rat) (m : Nat) : ∀ c, gs j a (m + 1) (c + 1) + a (c + 1) * bw j m c = s * gs j a m (c + 1) + gs j (fun i => (j - s) * a i + a (i + 1)) m (c + 1)
  | 0 => by
    show 0 + a 0 * bw j (m + 1) 0 + a 1 * bw j m 0 = s * (0 + a 0 * bw j m 0) + (0 + ((j - s) * a 0 + a 1) * bw j m 0)
    rw [bw_zero]; grind
  | c + 1 => by
    have ih := gs_shift j s a m c
    show gs j a (m + 1) (c + 1) + a (c + 1) * bw j (m + 1) (c + 1) + a (c + 2) * bw j m (c + 1) = s * (gs j a m (c + 1) + a (c + 1) * bw j m (c + 1)) + (gs j (fun i => (j - s) * a i + a (i + 1)) m (c + 1) + ((j - s) * a (c + 1) + a (c + 2)) * bw j m (c + 1))
    rw [bw_succ]
    generalize gs j (fun i => (j - s) * a i + a (i + 1)) m (c + 1) = z at *
    grind
theorem gs_at {j s : Rat} {a a' : Nat → Rat} {m c : Nat} (h0 : a c = 0) (h : ∀ i, i < c → (j - s) * a i + a (i + 1) = a' i) : gs j a (m + 1) c = s * gs j a m c + gs j a' m c := by
  cases c with
  | zero => show (0 : Rat) = s * 0 + 0; grind
  | succ c =>
    have := gs_shift j s a m c
    rw [h0] at this
    rw [← gs_congr (a := fun i => (j - s) * a i + a (i + 1)) (a' := a') (c + 1) h, ← this]
    grind
def Gn (M : List Nat) (m : Nat) : Nat → Rat
  | 0 => 0
  | J + 1 => Gn M m J + gs (J : Rat) (coef J M) m (M.count J)
theorem coef_end (j : Nat) (M : List Nat) : coef j M (M.count j) = 0 := by unfold coef; rw [if_neg (by omega)]
theorem gs_node (j s : Nat) (M : List Nat) (m : Nat) : gs (j : Rat) (coef j (s :: M)) (m + 1) ((s :: M).count j) = (s : Rat) * gs (j : Rat) (coef j (s :: M)) m ((s :: M).count j) + gs (j : Rat) (coef j M) m (M.count j) := by
  by_cases h : s = j
  · subst h
    rw [gs_at (s := (s : Rat)) (a' := coef s M) (coef_end s _) (fun i _ => by rw [coef_same]; grind)]
    congr 1
    rw [List.count_cons_self]
    show gs _ _ _ _ + coef s M (M.count s) * _ = _
    rw [coef_end]; grind
  · rw [gs_at (s := (s : Rat)) (a' := coef j M) (coef_end j _) (fun i _ => coef_other h i)]
    congr 2
    rw [List.count_cons_of_ne h]
theorem Gn_step (s : Nat) (M : List Nat) (m : Nat) : ∀ J, Gn (s :: M) (m + 1) J = (s : Rat) * Gn (s :: M) m J + Gn M m J
  | 0 => by show (0 : Rat) = (s : Rat) * 0 + 0; grind
  | J + 1 => by
    show Gn (s :: M) (m + 1) J + gs _ _ _ _ = (s : Rat) * (Gn (s :: M) m J + gs _ _ _ _) + (Gn M m J + gs _ _ _ _)
    rw [Gn_step s M m J, gs_node]; grind
theorem Gn_perm {M M' : List Nat} (h : M.Perm M') (m : Nat) : ∀ J, Gn M m J = Gn M' m J
  | 0 => rfl
  | J + 1 => by
    show Gn M m J + gs _ _ _ _ = Gn M' m J + gs _ _ _ _
    rw [Gn_perm h m J, h.count_eq]
    congr 1
    exact gs_congr _ fun i _ => by unfold coef; rw [h.count_eq, ser_perm J h]
theorem Gn_nil (m : Nat) : ∀ J, Gn [] m J = 0
  | 0 => rfl
  | J + 1 => by show Gn [] m J + 0 = 0; rw [Gn_nil m J, Rat.add_zero]
def Hn : List Nat → Nat → Nat
  | [], _ => 0
  | _ :: M, 0 => if M = [] then 1 else 0
  | s :: M, m + 1 => s * Hn (s :: M) m + Hn M m
theorem Gn_of {s : Nat} {M : List Nat} {J : Nat} (h : ∀ m, Gn M m J = (Hn M m : Rat)) (h0 : Gn (s :: M) 0 J = (Hn (s :: M) 0 : Rat)) : ∀ m, Gn (s :: M) m J = (Hn (s :: M) m : Rat)
  | 0 => h0
  | m + 1 => by
    rw [Gn_step, Gn_of h h0 m, h m]
    show _ = ((s * Hn (s :: M) m + Hn M m : Nat) : Rat)
    exact_mod_cast rfl
theorem Hn_zero {s : Nat} {M : List Nat} (h : M ≠ []) : Hn (s :: M) 0 = 0 := by
  show (if M = [] then 1 else 0) = 0
  rw [if_neg h]
theorem gs_at0 (j : Rat) (a : Nat → Rat) : ∀ c, gs j a 0 (c + 1) = a 0
  | 0 => by
    show 0 + a 0 * (((1 : Nat) : Rat) * j ^ 0) = a 0
    rw [Rat.pow_zero]; have : ((1 : Nat) : Rat) = 1 := rfl
    rw [this]; grind
  | c + 1 => by
    show gs j a 0 (c + 1) + a (c + 1) * (((0 : Nat) : Rat) * _) = a 0
    rw [gs_at0 j a c]; have : ((0 : Nat) : Rat) = 0 := rfl
    rw [this]; grind
theorem ser_rep (s : Nat) : ∀ (M : List Nat), (∀ t ∈ M, t = s) → ∀ k, ser s M k = if k = 0 then 1 else 0
  | [], _, k => rfl
  | t :: M, h, k => by
    have : t = s := h t List.mem_cons_self
    simp only [ser, if_pos this]
    exact ser_rep s M (fun u hu => h u (List.mem_cons_of_mem _ hu)) k
theorem count_rep (s : Nat) : ∀ (M : List Nat), (∀ t ∈ M, t = s) → M.count s = M.length
  | [], _ => rfl
  | t :: M, h => by
    have : t = s := h t List.mem_cons_self
    subst this
    rw [List.count_cons_self, List.length_cons, count_rep t M (fun u hu => h u (List.mem_cons_of_mem _ hu))]
theorem Gn_rep {s : Nat} {M : List Nat} (h : ∀ t ∈ M, t = s) (hM : M ≠ []) : ∀ J, Gn M 0 J = if s < J then coef s M 0 else 0
  | 0 => rfl
  | J + 1 => by
    show Gn M 0 J + gs _ _ _ _ = _
    rw [Gn_rep h hM J]
    have hl : 0 < M.length := List.length_pos_iff.2 hM
    by_cases e : s = J
    · subst e
      rw [if_neg (by omega), if_pos (by omega), count_rep s M h]
      obtain ⟨c, hc⟩ : ∃ c, M.length = c + 1 := ⟨M.length - 1, by omega⟩
      rw [hc, gs_at0, Rat.zero_add]
    · have : M.count J = 0 := List.count_eq_zero.2 fun hj => e ((h J hj).symm)
      rw [this]
      show _ + 0 = _
      rw [Rat.add_zero]
      by_cases h1 : s < J
      · rw [if_pos h1, if_pos (by omega)]
      · rw [if_neg h1, if_neg (by omega)]
theorem Gn_eq (J : Nat) : ∀ (n : Nat) (M : List Nat), M.length = n → (∀ t ∈ M, t < J) → ∀ m, Gn M m J = (Hn M m : Rat) := by
  intro n
  induction n using Nat.strongRecOn with
  | _ n ih =>
    intro M hl hM
    match M, hl, hM with
    | [], _, _ => intro m; rw [Gn_nil]; cases m <;> rfl
    | s :: M, hl, hM =>
      have hM1 := fun m => ih M.length (by rw [← hl, List.length_cons]; omega) M rfl (fun t ht => hM t (List.mem_cons_of_mem _ ht)) m
      refine Gn_of hM1 ?_
      by_cases he : ∀ t ∈ M, t = s
      · have ha : ∀ t ∈ s :: M, t = s := fun t ht => by
          rcases List.mem_cons.1 ht with h | h
          · exact h
          · exact he t h
        rw [Gn_rep ha (by simp) J, if_pos (hM s List.mem_cons_self)]
        unfold coef
        rw [count_rep s _ ha, if_pos (by simp), ser_rep s _ ha, List.length_cons]
        by_cases hn : M = []
        · subst hn; rfl
        · rw [Hn_zero hn]
          have : 0 < M.length := List.length_pos_iff.2 hn
          rw [if_neg (by omega)]; rfl
      · obtain ⟨t, ht, hts⟩ : ∃ t, t ∈ M ∧ t ≠ s := by
          refine Classical.byContradiction fun hc => he fun t ht => Classical.byContradiction fun hts => hc ⟨t, ht, hts⟩
        have hn : M ≠ [] := by rintro rfl; cases ht
        rw [Hn_zero hn]
        have p := List.perm_cons_erase ht
        obtain ⟨M0, hM0⟩ : ∃ M0, M0 = M.erase t := ⟨_, rfl⟩
        rw [← hM0] at p
        have p1 : (s :: M).Perm (s :: t :: M0) := List.Perm.cons s p
        have p2 : (s :: M).Perm (t :: s :: M0) := p1.trans (List.Perm.swap t s M0)
        have lM : M.length = M0.length + 1 := by rw [p.length_eq, List.length_cons]
        have i1 := ih (M0.length + 1) (by rw [← hl, List.length_cons]; omega) (t :: M0) (by simp) (fun u hu => hM u (List.mem_cons_of_mem _ (p.mem_iff.2 hu))) 0
        have i2 := ih (M0.length + 1) (by rw [← hl, List.length_cons]; omega) (s :: M0) (by simp) (fun u hu => by
          rcases List.mem_cons.1 hu with h | h
          · rw [h]; exact hM s List.mem_cons_self
          · exact hM u (List.mem_cons_of_mem _ (p.mem_iff.2 (List.mem_cons_of_mem _ h)))) 0
        have e0 : (Hn (t :: M0) 0) = (Hn (s :: M0) 0) := rfl
        have s1 := Gn_step s (t :: M0) 0 J
        have s2 := Gn_step t (s :: M0) 0 J
        rw [← Gn_perm p1, ← Gn_perm p1, i1] at s1
        rw [← Gn_perm p2, ← Gn_perm p2, i2, ← e0] at s2
        have d : ((s : Rat) - (t : Rat)) * Gn (s :: M) 0 J = 0 := by
          generalize Gn (s :: M) (0 + 1) J = z at *
          generalize Gn (s :: M) 0 J = y at *
          grind
        rcases Rat.mul_eq_zero.1 d with h | h
        · exact absurd h (sub_ne hts)
        · rw [h]; rfl
end Go.Ex
namespace Go.Ex
def isI (q : Rat) : Prop := ∃ z : Int, q = (z : Rat)
theorem isI_int (z : Int) : isI (z : Rat) := ⟨z, rfl⟩
theorem isI_nat (n : Nat) : isI (n : Rat) := ⟨(n : Int), rfl⟩
theorem isI_add {a b : Rat} (h : isI a) (g : isI b) : isI (a + b) := by
  obtain ⟨x, rfl⟩ := h; obtain ⟨y, rfl⟩ := g; exact ⟨x + y, by rw [Rat.intCast_add]⟩
theorem isI_sub {a b : Rat} (h : isI a) (g : isI b) : isI (a - b) := by
  obtain ⟨x, rfl⟩ := h; obtain ⟨y, rfl⟩ := g; exact ⟨x - y, by rw [Rat.intCast_sub]⟩
theorem isI_mul {a b : Rat} (h : isI a) (g : isI b) : isI (a * b) := by
  obtain ⟨x, rfl⟩ := h; obtain ⟨y, rfl⟩ := g; exact ⟨x * y, by rw [Rat.intCast_mul]⟩
theorem isI_zero : isI 0 := ⟨0, rfl⟩
theorem isI_one : isI 1 := ⟨1, rfl⟩
theorem isI_pow {a : Rat} (h : isI a) : ∀ n : Nat, isI (a ^ n)
  | 0 => by rw [Rat.pow_zero]; exact isI_one
  | n + 1 => by rw [Rat.pow_succ]; exact isI_mul (isI_pow h n) h
def prd (j : Nat) : List Nat → Int
  | [] => 1
  | s :: M => if s = j then prd j M else prd j M * ((j : Int) - (s : Int))
theorem castd (j s : Nat) : (((j : Int) - (s : Int) : Int) : Rat) = (j : Rat) - (s : Rat) := by rw [Rat.intCast_sub]; rfl
theorem ser_int {A : Int} (j : Nat) : ∀ M : List Nat, (∀ s ∈ M, s ≠ j → ((j : Int) - (s : Int)) ∣ A) → ∀ k, isI (ser j M k * (prd j M : Rat) * (A : Rat) ^ k)
  | [], _, k => by
    unfold ser prd
    by_cases h : k = 0
    · subst h; rw [if_pos rfl, Rat.pow_zero]; exact ⟨1, by decide +kernel⟩
    · rw [if_neg h]; exact ⟨0, by grind⟩
  | s :: M, hA, k => by
    have ih := ser_int j M (fun t ht => hA t (List.mem_cons_of_mem _ ht))
    unfold ser prd
    by_cases h : s = j
    · rw [if_pos h, if_pos h]; exact ih k
    · rw [if_neg h, if_neg h]
      obtain ⟨e, he⟩ := hA s List.mem_cons_self h
      have hd := sub_ne h
      have eA : (A : Rat) = ((j : Rat) - (s : Rat)) * (e : Rat) := by rw [he, Rat.intCast_mul, castd]
      rw [Rat.intCast_mul, castd]
      have key : ∀ k, isI (dvu ((j : Rat) - (s : Rat)) (ser j M) k * ((prd j M : Rat) * ((j : Rat) - (s : Rat))) * (A : Rat) ^ k) := by
        intro k
        have m := mulu_dvu hd (ser j M)
        induction k with
        | zero =>
          have m0 : ((j : Rat) - (s : Rat)) * dvu ((j : Rat) - (s : Rat)) (ser j M) 0 = ser j M 0 := m 0
          have i0 := ih 0
          rw [← m0] at i0
          obtain ⟨z, hz⟩ := i0
          exact ⟨z, by rw [← hz]; grind⟩
        | succ k ihk =>
          have m1 : ((j : Rat) - (s : Rat)) * dvu ((j : Rat) - (s : Rat)) (ser j M) (k + 1) + dvu ((j : Rat) - (s : Rat)) (ser j M) k = ser j M (k + 1) := m (k + 1)
          have i1 := isI_sub (ih (k + 1)) (isI_mul ihk (isI_int e))
          obtain ⟨z, hz⟩ := i1
          refine ⟨z, ?_⟩
          rw [← hz, ← m1, Rat.pow_succ, eA]
          generalize ((j : Rat) - (s : Rat)) = d at *
          generalize dvu d (ser j M) (k + 1) = y at *
          generalize dvu d (ser j M) k = y' at *
          generalize (d * (e : Rat)) ^ k = P at *
          grind
      have := key k
      simpa only using this
theorem one_le_sub {j s : Nat} (h : s ≠ j) : 1 ≤ (j : Rat) - (s : Rat) ∨ (j : Rat) - (s : Rat) ≤ -1 := by
  rcases Nat.lt_or_ge s j with g | g
  · left
    have : ((s + 1 : Nat) : Rat) ≤ (j : Rat) := by exact_mod_cast g
    have e : ((s + 1 : Nat) : Rat) = (s : Rat) + 1 := by exact_mod_cast rfl
    rw [e] at this; grind
  · right
    have g' : j + 1 ≤ s := by omega
    have : ((j + 1 : Nat) : Rat) ≤ (s : Rat) := by exact_mod_cast g'
    have e : ((j + 1 : Nat) : Rat) = (j : Rat) + 1 := by exact_mod_cast rfl
    rw [e] at this; grind
def Bdd (x B : Rat) : Prop := -B ≤ x ∧ x ≤ B
theorem Bdd_nn {x B : Rat} (h : Bdd x B) : 0 ≤ B := by obtain ⟨a, b⟩ := h; grind
theorem Bdd_add {x y B C : Rat} (h : Bdd x B) (g : Bdd y C) : Bdd (x + y) (B + C) := by
  obtain ⟨a, b⟩ := h; obtain ⟨c, d⟩ := g; constructor <;> grind
theorem Bdd_sub {x y B C : Rat} (h : Bdd x B) (g : Bdd y C) : Bdd (x - y) (B + C) := by
  obtain ⟨a, b⟩ := h; obtain ⟨c, d⟩ := g; constructor <;> grind
theorem Bdd_mul {x y B C : Rat} (h : Bdd x B) (g : Bdd y C) : Bdd (x * y) (B * C) := by
  have nB := Bdd_nn h
  have nC := Bdd_nn g
  obtain ⟨a, b⟩ := h; obtain ⟨c, d⟩ := g
  have m1 := Rat.mul_nonneg (show 0 ≤ B - x by grind) (show 0 ≤ C - y by grind)
  have m2 := Rat.mul_nonneg (show 0 ≤ B + x by grind) (show 0 ≤ C + y by grind)
  have m3 := Rat.mul_nonneg (show 0 ≤ B - x by grind) (show 0 ≤ C + y by grind)
  have m4 := Rat.mul_nonneg (show 0 ≤ B + x by grind) (show 0 ≤ C - y by grind)
  constructor <;> grind
theorem Bdd_mono {x B C : Rat} (h : Bdd x B) (g : B ≤ C) : Bdd x C := by
  obtain ⟨a, b⟩ := h; constructor <;> grind
theorem Bdd_div {x d B : Rat} (h : Bdd x B) (hd : 1 ≤ d ∨ d ≤ -1) : Bdd (x / d) B := by
  have dn : d ≠ 0 := by grind
  have e := mul_div d x dn
  have nB := Bdd_nn h
  obtain ⟨a, b⟩ := h
  generalize x / d = y at *
  rcases hd with hd | hd
  · constructor
    · refine Rat.not_lt.1 fun c => ?_
      have := Rat.mul_nonneg (show 0 ≤ d - 1 by grind) (show 0 ≤ -y - B by grind)
      have := Rat.mul_nonneg (show 0 ≤ d - 1 by grind) nB
      grind
    · refine Rat.not_lt.1 fun c => ?_
      have := Rat.mul_nonneg (show 0 ≤ d - 1 by grind) (show 0 ≤ y - B by grind)
      have := Rat.mul_nonneg (show 0 ≤ d - 1 by grind) nB
      grind
  · constructor
    · refine Rat.not_lt.1 fun c => ?_
      have := Rat.mul_nonneg (show 0 ≤ -d - 1 by grind) (show 0 ≤ -y - B by grind)
      have := Rat.mul_nonneg (show 0 ≤ -d - 1 by grind) nB
      grind
    · refine Rat.not_lt.1 fun c => ?_
      have := Rat.mul_nonneg (show 0 ≤ -d - 1 by grind) (show 0 ≤ y - B by grind)
      have := Rat.mul_nonneg (show 0 ≤ -d - 1 by grind) nB
      grind
abbrev t2 (w : Nat) : Rat := ((2 ^ w : Nat) : Rat)
theorem t2_pos (w : Nat) : 0 < t2 w := by
  have : 0 < 2 ^ w := Nat.pow_pos (by omega)
  exact_mod_cast this
theorem t2_succ (w : Nat) : t2 (w + 1) = t2 w + t2 w := by
  show ((2 ^ (w + 1) : Nat) : Rat) = ((2 ^ w : Nat) : Rat) + ((2 ^ w : Nat) : Rat)
  rw [Nat.pow_succ, Nat.mul_two]; exact_mod_cast rfl
theorem t2_add (a b : Nat) : t2 (a + b) = t2 a * t2 b := by
  show ((2 ^ (a + b) : Nat) : Rat) = _
  rw [Nat.pow_add]; exact_mod_cast rfl
theorem t2_mono {a b : Nat} (h : a ≤ b) : t2 a ≤ t2 b := by
  have : 2 ^ a ≤ 2 ^ b := Nat.pow_le_pow_right (by omega) h
  exact_mod_cast this
theorem dvu_bd {d : Rat} (hd : 1 ≤ d ∨ d ≤ -1) {f : Nat → Rat} {L : Nat} (h : ∀ k, Bdd (f k) (t2 (L + k))) : ∀ k, Bdd (dvu d f k) (t2 (L + 1 + k))
  | 0 => Bdd_div (Bdd_mono (h 0) (t2_mono (by omega))) hd
  | k + 1 => by
    have ih := dvu_bd hd h k
    refine Bdd_div ?_ hd
    have e := Bdd_sub (h (k + 1)) (Bdd_mono ih (t2_mono (show L + 1 + k ≤ L + (k + 1) by omega)))
    rw [show L + 1 + (k + 1) = L + (k + 1) + 1 by omega, t2_succ]
    exact e
theorem ser_bd (j : Nat) : ∀ (M : List Nat) k, Bdd (ser j M k) (t2 (M.length + k))
  | [], k => by
    unfold ser
    have := t2_mono (a := 0) (b := ([] : List Nat).length + k) (by omega)
    have e : t2 0 = 1 := rfl
    rw [e] at this
    split
    · exact ⟨by grind, this⟩
    · exact ⟨by grind, by grind⟩
  | s :: M, k => by
    unfold ser
    have ih := ser_bd j M
    by_cases h : s = j
    · rw [if_pos h]; exact Bdd_mono (ih k) (t2_mono (by simp))
    · rw [if_neg h]
      have := dvu_bd (one_le_sub h) ih k
      rw [List.length_cons]
      exact this
theorem coef_bd (j : Nat) (M : List Nat) (i : Nat) : Bdd (coef j M i) (t2 (M.length + M.count j)) := by
  unfold coef
  split
  · exact Bdd_mono (ser_bd j M _) (t2_mono (by omega))
  · have := t2_pos (M.length + M.count j)
    exact ⟨by grind, by grind⟩
def nds : Nat → List Nat
  | 0 => []
  | n + 1 => List.range 65 ++ nds n
theorem nds_lt : ∀ n, ∀ t ∈ nds n, t < 65
  | 0, t, h => by cases h
  | n + 1, t, h => by
    rcases List.mem_append.1 h with h | h
    · exact List.mem_range.1 h
    · exact nds_lt n t h
theorem nds_len : ∀ n, (nds n).length = 65 * n
  | 0 => rfl
  | n + 1 => by
    show (List.range 65 ++ nds n).length = _
    rw [List.length_append, nds_len n, List.length_range]; omega
theorem range_cnt : (List.range 65).all (fun j => decide ((List.range 65).count j = 1)) = true := by decide +kernel
theorem nds_cnt {j : Nat} (hj : j < 65) : ∀ n, (nds n).count j = n
  | 0 => rfl
  | n + 1 => by
    show (List.range 65 ++ nds n).count j = _
    rw [List.count_append, nds_cnt hj n, of_decide_eq_true (List.all_eq_true.1 range_cnt j (List.mem_range.2 hj))]; omega
theorem prd_append (j : Nat) : ∀ M M', prd j (M ++ M') = prd j M * prd j M'
  | [], M' => by show prd j M' = 1 * prd j M'; rw [Int.one_mul]
  | s :: M, M' => by
    show (if s = j then prd j (M ++ M') else prd j (M ++ M') * _) = (if s = j then prd j M else prd j M * _) * prd j M'
    split
    · exact prd_append j M M'
    · rw [prd_append j M M', Int.mul_assoc, Int.mul_assoc, Int.mul_comm (prd j M')]
theorem prd_nds (j : Nat) : ∀ n, prd j (nds n) = prd j (List.range 65) ^ n
  | 0 => by rw [Int.pow_zero]; rfl
  | n + 1 => by
    show prd j (List.range 65 ++ nds n) = _
    rw [prd_append, prd_nds j n, Int.pow_succ, Int.mul_comm]
def F64 : Int := 126886932185884164103433389335161480802865516174545192198801894375214704230400000000000000
def L64 : Int := 1182266884102822267511361600
theorem prd_F64 : (List.range 65).all (fun j => decide (prd j (List.range 65) ∣ F64)) = true := by decide +kernel
theorem sub_L64 : (List.range 65).all (fun j => (List.range 65).all fun s => decide (s = j) || decide (((j : Int) - (s : Int)) ∣ L64)) = true := by decide +kernel
theorem prd_dvd {j : Nat} (hj : j < 65) : prd j (List.range 65) ∣ F64 := of_decide_eq_true (List.all_eq_true.1 prd_F64 j (List.mem_range.2 hj))
theorem sub_dvd {j s : Nat} (hj : j < 65) (hs : s < 65) (h : s ≠ j) : ((j : Int) - (s : Int)) ∣ L64 := by
  have := List.all_eq_true.1 (List.all_eq_true.1 sub_L64 j (List.mem_range.2 hj)) s (List.mem_range.2 hs)
  rw [decide_eq_false h, Bool.false_or] at this
  exact of_decide_eq_true this
theorem F64_le : F64 ≤ 2 ^ 296 ∧ 0 < F64 ∧ L64 ≤ 2 ^ 90 ∧ 0 < L64 := by decide +kernel
end Go.Ex
namespace Go.Ex
def tm (x : Rat) : Nat → Rat
  | 0 => 1
  | m + 1 => tm x m * x / ((m + 1 : Nat) : Rat)
def E (x : Rat) : Nat → Rat
  | 0 => 0
  | m + 1 => E x m + tm x m
theorem nsucc_ne (m : Nat) : ((m + 1 : Nat) : Rat) ≠ 0 := fun e => by have := nat_inj (b := 0) e; omega
theorem nsucc_pos (m : Nat) : (0 : Rat) < ((m + 1 : Nat) : Rat) := by exact_mod_cast Nat.succ_pos m
theorem nat_nn (m : Nat) : (0 : Rat) ≤ (m : Rat) := by exact_mod_cast Nat.zero_le m
theorem castadd (a b : Nat) : ((a + b : Nat) : Rat) = (a : Rat) + (b : Rat) := by exact_mod_cast rfl
theorem castmul (a b : Nat) : ((a * b : Nat) : Rat) = (a : Rat) * (b : Rat) := by exact_mod_cast rfl
theorem tm_succ (x : Rat) (m : Nat) : ((m + 1 : Nat) : Rat) * tm x (m + 1) = x * tm x m := by
  show ((m + 1 : Nat) : Rat) * (tm x m * x / ((m + 1 : Nat) : Rat)) = _
  rw [mul_div _ _ (nsucc_ne m), Rat.mul_comm]
theorem div_nn {x d : Rat} (hx : 0 ≤ x) (hd : 0 < d) : 0 ≤ x / d := by
  have := Rat.inv_pos.2 hd
  rw [Rat.div_def]; exact Rat.mul_nonneg hx (Rat.le_of_lt this)
theorem tm_nn {x : Rat} (hx : 0 ≤ x) : ∀ m, 0 ≤ tm x m
  | 0 => by show (0 : Rat) ≤ 1; decide
  | m + 1 => div_nn (Rat.mul_nonneg (tm_nn hx m) hx) (nsucc_pos m)
theorem tm_pos {x : Rat} (hx : 0 < x) : ∀ m, 0 < tm x m
  | 0 => by show (0 : Rat) < 1; decide
  | m + 1 => by
    show 0 < tm x m * x / ((m + 1 : Nat) : Rat)
    rw [Rat.div_def]
    exact Rat.mul_pos (Rat.mul_pos (tm_pos hx m) hx) (Rat.inv_pos.2 (nsucc_pos m))
theorem cancel_l {c x y : Rat} (hc : c ≠ 0) (h : c * x = c * y) : x = y := by
  have : c * (x - y) = 0 := by grind
  rcases Rat.mul_eq_zero.1 this with h | h <;> grind
theorem tm_bin (x : Rat) : ∀ n a b : Nat, a + b = n → ((bin (a + b) a : Nat) : Rat) * tm x (a + b) = tm x a * tm x b := by
  intro n
  induction n with
  | zero =>
    intro a b h
    obtain ⟨rfl, rfl⟩ : a = 0 ∧ b = 0 := ⟨by omega, by omega⟩
    show ((1 : Nat) : Rat) * 1 = 1 * 1
    decide +kernel
  | succ n ih =>
    intro a b h
    match a, b, h with
    | 0, b + 1, h =>
      rw [show bin (0 + (b + 1)) 0 = 1 by cases b <;> rfl, Nat.zero_add]
      show ((1 : Nat) : Rat) * _ = 1 * _
      rfl
    | a + 1, 0, h =>
      have e : ∀ a, bin a a = 1 := by
        intro a
        induction a with
        | zero => rfl
        | succ a iha => show bin a a + bin a (a + 1) = 1; rw [iha, bin_big a (a + 1) (by omega)]
      show ((bin (a + 1) (a + 1) : Nat) : Rat) * tm x (a + 1) = tm x (a + 1) * 1
      rw [e, Rat.mul_one]
      have : ((1 : Nat) : Rat) = 1 := rfl
      rw [this, Rat.one_mul]
    | a + 1, b + 1, h =>
      have i1 := ih a (b + 1) (by omega)
      have i2 := ih (a + 1) b (by omega)
      rw [show a + (b + 1) = a + b + 1 by omega] at i1
      rw [show a + 1 + b = a + b + 1 by omega] at i2
      rw [show a + 1 + (b + 1) = a + b + 1 + 1 by omega]
      have s := tm_succ x (a + b + 1)
      have sa := tm_succ x a
      have sb := tm_succ x b
      have eb : ((bin (a + b + 1 + 1) (a + 1) : Nat) : Rat) = (bin (a + b + 1) a : Rat) + (bin (a + b + 1) (a + 1) : Rat) := by
        rw [← castadd]; rfl
      refine cancel_l (nsucc_ne (a + b + 1)) ?_
      have en : ((a + b + 1 + 1 : Nat) : Rat) = ((a + 1 : Nat) : Rat) + ((b + 1 : Nat) : Rat) := by rw [← castadd]; congr 1; omega
      rw [eb]
      have l : ((a + b + 1 + 1 : Nat) : Rat) * (((bin (a + b + 1) a : Rat) + (bin (a + b + 1) (a + 1) : Rat)) * tm x (a + b + 1 + 1)) = ((bin (a + b + 1) a : Rat) + (bin (a + b + 1) (a + 1) : Rat)) * (((a + b + 1 + 1 : Nat) : Rat) * tm x (a + b + 1 + 1)) := by grind
      rw [l, s]
      have r : ((a + b + 1 + 1 : Nat) : Rat) * (tm x (a + 1) * tm x (b + 1)) = (((a + 1 : Nat) : Rat) * tm x (a + 1)) * tm x (b + 1) + tm x (a + 1) * (((b + 1 : Nat) : Rat) * tm x (b + 1)) := by rw [en]; grind
      rw [r, sa, sb]
      have l2 : ((bin (a + b + 1) a : Rat) + (bin (a + b + 1) (a + 1) : Rat)) * (x * tm x (a + b + 1)) = x * ((bin (a + b + 1) a : Rat) * tm x (a + b + 1)) + x * ((bin (a + b + 1) (a + 1) : Rat) * tm x (a + b + 1)) := by grind
      rw [l2, i1, i2]; grind
theorem tm_scale (j x : Rat) : ∀ m, tm (j * x) m = j ^ m * tm x m
  | 0 => by show (1 : Rat) = j ^ 0 * 1; rw [Rat.pow_zero]; decide +kernel
  | m + 1 => by
    show tm (j * x) m * (j * x) / _ = j ^ (m + 1) * (tm x m * x / _)
    rw [tm_scale j x m, Rat.pow_succ, Rat.div_def, Rat.div_def]; grind
theorem bw_tm (j x : Rat) {m i : Nat} (h : i ≤ m) : bw j m i * tm x m = tm x i * tm (j * x) (m - i) := by
  have b := tm_bin x m i (m - i) (by omega)
  rw [show i + (m - i) = m by omega] at b
  unfold bw
  rw [tm_scale]
  have : (bin m i : Rat) * j ^ (m - i) * tm x m = j ^ (m - i) * ((bin m i : Rat) * tm x m) := by grind
  rw [this, b]; grind
theorem bw_big (j : Rat) {m i : Nat} (h : m < i) : bw j m i = 0 := by
  unfold bw; rw [bin_big m i h]
  have : ((0 : Nat) : Rat) = 0 := rfl
  rw [this, Rat.zero_mul]
def Rn (M : List Nat) (x : Rat) : Nat → Rat
  | 0 => 0
  | K + 1 => Rn M x K + (Hn M K : Rat) * tm x K
def lv1 (a : Nat → Rat) (x : Rat) (v : Nat → Rat) : Nat → Rat
  | 0 => 0
  | c + 1 => lv1 a x v c + a c * tm x c * v c
def LV (M : List Nat) (x : Rat) (v : Nat → Nat → Rat) : Nat → Rat
  | 0 => 0
  | J + 1 => LV M x v J + lv1 (coef J M) x (v J) (M.count J)
theorem lv1_step (j x : Rat) (a : Nat → Rat) (K : Nat) : ∀ c, lv1 a x (fun i => E (j * x) (K + 1 - i)) c = lv1 a x (fun i => E (j * x) (K - i)) c + gs j a K c * tm x K
  | 0 => by show (0 : Rat) = 0 + 0 * _; grind
  | c + 1 => by
    show lv1 a x (fun i => E (j * x) (K + 1 - i)) c + a c * tm x c * E (j * x) (K + 1 - c) = lv1 a x (fun i => E (j * x) (K - i)) c + a c * tm x c * E (j * x) (K - c) + (gs j a K c + a c * bw j K c) * tm x K
    rw [lv1_step j x a K c]
    by_cases h : c ≤ K
    · rw [show K + 1 - c = K - c + 1 by omega]
      have b := bw_tm j x h
      show _ + a c * tm x c * (E (j * x) (K - c) + tm (j * x) (K - c)) = _
      have : a c * bw j K c * tm x K = a c * (bw j K c * tm x K) := by grind
      rw [Rat.add_mul, this, b]; grind
    · rw [bw_big j (by omega), show K + 1 - c = 0 by omega, show K - c = 0 by omega]
      grind
theorem LV_step (M : List Nat) (x : Rat) (K : Nat) : ∀ J, LV M x (fun j i => E ((j : Rat) * x) (K + 1 - i)) J = LV M x (fun j i => E ((j : Rat) * x) (K - i)) J + Gn M K J * tm x K
  | 0 => by show (0 : Rat) = 0 + 0 * _; grind
  | J + 1 => by
    show LV M x _ J + lv1 _ x (fun i => E ((J : Rat) * x) (K + 1 - i)) _ = LV M x _ J + lv1 _ x (fun i => E ((J : Rat) * x) (K - i)) _ + (Gn M K J + gs _ _ _ _) * tm x K
    rw [LV_step M x K J, lv1_step]; grind
theorem lv1_zero (a : Nat → Rat) (x : Rat) {v : Nat → Rat} (h : ∀ i, v i = 0) : ∀ c, lv1 a x v c = 0
  | 0 => rfl
  | c + 1 => by show lv1 a x v c + a c * tm x c * v c = 0; rw [lv1_zero a x h c, h]; grind
theorem LV_zero (M : List Nat) (x : Rat) {v : Nat → Nat → Rat} (h : ∀ j i, v j i = 0) : ∀ J, LV M x v J = 0
  | 0 => rfl
  | J + 1 => by show LV M x v J + lv1 _ x (v J) _ = 0; rw [LV_zero M x h J, lv1_zero _ x (h J)]; grind
theorem Rn_eq {M : List Nat} {J : Nat} (hM : ∀ t ∈ M, t < J) (x : Rat) : ∀ K, LV M x (fun j i => E ((j : Rat) * x) (K - i)) J = Rn M x K
  | 0 => LV_zero M x (fun j i => by rw [Nat.zero_sub]; rfl) J
  | K + 1 => by
    rw [LV_step, Rn_eq hM x K, Gn_eq J M.length M rfl hM K]; rfl
theorem lv1_diff {a : Nat → Rat} {x A T e : Rat} {v v' : Nat → Rat} (hx : 0 ≤ x) (hA : ∀ i, Bdd (a i) A) : ∀ c, (∀ i, i < c → tm x i ≤ T) → (∀ i, i < c → Bdd (v i - v' i) e) → Bdd (lv1 a x v c - lv1 a x v' c) ((c : Rat) * (A * T * e))
  | 0, _, _ => by
    show Bdd (0 - 0) (((0 : Nat) : Rat) * _)
    have : ((0 : Nat) : Rat) = 0 := rfl
    rw [this]; constructor <;> grind
  | c + 1, hT, hv => by
    have ih := lv1_diff (v := v) (v' := v') hx hA c (fun i hi => hT i (by omega)) (fun i hi => hv i (by omega))
    have ht : Bdd (tm x c) T := ⟨by have := tm_nn hx c; have := hT c (by omega); grind, hT c (by omega)⟩
    have b := Bdd_mul (Bdd_mul (hA c) ht) (hv c (by omega))
    have s := Bdd_add ih b
    have e1 : lv1 a x v (c + 1) - lv1 a x v' (c + 1) = lv1 a x v c - lv1 a x v' c + a c * tm x c * (v c - v' c) := by
      show lv1 a x v c + a c * tm x c * v c - (lv1 a x v' c + a c * tm x c * v' c) = _
      grind
    have e2 : ((c + 1 : Nat) : Rat) * (A * T * e) = (c : Rat) * (A * T * e) + A * T * e := by
      have : ((c + 1 : Nat) : Rat) = (c : Rat) + 1 := castadd c 1
      rw [this]; grind
    rw [e1, e2]; exact s
theorem LV_diff {M : List Nat} {x A T e : Rat} {v v' : Nat → Nat → Rat} {n : Nat} (hx : 0 ≤ x) : ∀ J, (∀ j, j < J → M.count j = n ∧ ∀ i, Bdd (coef j M i) A) → (∀ i, i < n → tm x i ≤ T) → (∀ j i, j < J → i < n → Bdd (v j i - v' j i) e) → Bdd (LV M x v J - LV M x v' J) ((J : Rat) * ((n : Rat) * (A * T * e)))
  | 0, _, _, _ => by
    show Bdd (0 - 0) (((0 : Nat) : Rat) * _)
    have : ((0 : Nat) : Rat) = 0 := rfl
    rw [this]; constructor <;> grind
  | J + 1, hA, hT, hv => by
    have ih := LV_diff (v := v) (v' := v') hx J (fun j hj => hA j (by omega)) hT (fun j i hj hi => hv j i (by omega) hi)
    obtain ⟨hc, hb⟩ := hA J (by omega)
    have b := lv1_diff (v := v J) (v' := v' J) hx hb n hT (fun i hi => hv J i (by omega) hi)
    have s := Bdd_add ih b
    have e1 : LV M x v (J + 1) - LV M x v' (J + 1) = LV M x v J - LV M x v' J + (lv1 (coef J M) x (v J) n - lv1 (coef J M) x (v' J) n) := by
      show LV M x v J + lv1 _ x (v J) (M.count J) - (LV M x v' J + lv1 _ x (v' J) (M.count J)) = _
      rw [hc]; grind
    have e2 : ((J + 1 : Nat) : Rat) * ((n : Rat) * (A * T * e)) = (J : Rat) * ((n : Rat) * (A * T * e)) + (n : Rat) * (A * T * e) := by
      have : ((J + 1 : Nat) : Rat) = (J : Rat) + 1 := castadd J 1
      rw [this]; grind
    rw [e1, e2]; exact s
theorem Hn_small : ∀ (M : List Nat) (m : Nat), m + 1 < M.length → Hn M m = 0
  | [], _, h => by simp at h
  | s :: M, 0, h => Hn_zero (by rintro rfl; simp at h)
  | s :: M, m + 1, h => by
    show s * Hn (s :: M) m + Hn M m = 0
    rw [Hn_small (s :: M) m (by omega), Hn_small M m (by rw [List.length_cons] at h; omega), Nat.mul_zero]
theorem Hn_first : ∀ (M : List Nat) (m : Nat), m + 1 = M.length → Hn M m = 1
  | [], _, h => by simp at h
  | s :: M, 0, h => by
    have : M = [] := by cases M; rfl; simp at h
    subst this; rfl
  | s :: M, m + 1, h => by
    show s * Hn (s :: M) m + Hn M m = 1
    rw [Hn_small (s :: M) m (by omega), Hn_first M m (by rw [List.length_cons] at h; omega), Nat.mul_zero, Nat.zero_add]
theorem Hn_le {c : Nat} : ∀ (M : List Nat) (m : Nat), (∀ t ∈ M, t ≤ c) → 0 < M.length → Hn M m ≤ bin m (M.length - 1) * c ^ (m - (M.length - 1))
  | s :: M, 0, h, _ => by
    show (if M = [] then 1 else 0) ≤ _
    by_cases e : M = []
    · subst e; rw [if_pos rfl]; exact Nat.le_refl _
    · rw [if_neg e]; exact Nat.zero_le _
  | s :: M, m + 1, h, hl => by
    have i1 := Hn_le (s :: M) m h (by simp)
    have hs := h s List.mem_cons_self
    show s * Hn (s :: M) m + Hn M m ≤ _
    rw [List.length_cons, Nat.add_sub_cancel] at *
    by_cases e : M = []
    · subst e
      have hz : Hn [] m = 0 := by cases m <;> rfl
      rw [hz]
      show s * Hn [s] m + 0 ≤ bin (m + 1) 0 * c ^ (m + 1)
      have b0 : bin (m + 1) 0 = 1 := rfl
      have b1 : bin m 0 = 1 := by cases m <;> rfl
      rw [b0, Nat.one_mul]
      have i1' : Hn [s] m ≤ bin m 0 * c ^ m := i1
      rw [b1, Nat.one_mul] at i1'
      have := Nat.mul_le_mul hs i1'
      rw [Nat.pow_succ, Nat.mul_comm (c ^ m)]; omega
    · obtain ⟨k, hk⟩ : ∃ k, M.length = k + 1 := ⟨M.length - 1, by have : 0 < M.length := List.length_pos_iff.2 e; omega⟩
      have i2 := Hn_le M m (fun t ht => h t (List.mem_cons_of_mem _ ht)) (by omega)
      rw [hk] at i1 i2 ⊢
      rw [Nat.add_sub_cancel] at i2
      show _ ≤ (bin m k + bin m (k + 1)) * c ^ (m + 1 - (k + 1))
      rw [show m + 1 - (k + 1) = m - k by omega, Nat.add_mul]
      have m1 := Nat.mul_le_mul hs i1
      by_cases h2 : k + 1 ≤ m
      · have e2 : c * (bin m (k + 1) * c ^ (m - (k + 1))) = bin m (k + 1) * c ^ (m - k) := by
          rw [show m - k = m - (k + 1) + 1 by omega, Nat.pow_succ, Nat.mul_left_comm, Nat.mul_comm c]
        rw [e2] at m1; omega
      · rw [bin_big m (k + 1) (by omega)] at m1 ⊢
        rw [Nat.zero_mul] at m1 ⊢
        omega
end Go.Ex
namespace Go.Ex
theorem E_nn {x : Rat} (hx : 0 ≤ x) : ∀ K, 0 ≤ E x K
  | 0 => Rat.le_refl
  | K + 1 => by show 0 ≤ E x K + tm x K; have := E_nn hx K; have := tm_nn hx K; grind
theorem E_mono {x : Rat} (hx : 0 ≤ x) {K L : Nat} (h : K ≤ L) : E x K ≤ E x L := by
  induction L with
  | zero => rw [show K = 0 by omega]; exact Rat.le_refl
  | succ L ih =>
    by_cases e : K = L + 1
    · rw [e]; exact Rat.le_refl
    · have := ih (by omega)
      have := tm_nn hx L
      show E x K ≤ E x L + tm x L
      grind
def cv (f g : Nat → Rat) (n : Nat) : Nat → Rat
  | 0 => 0
  | c + 1 => cv f g n c + f c * g (n - c)
theorem cv_step (x y : Rat) (n : Nat) : ∀ c, c ≤ n → ((n + 1 : Nat) : Rat) * cv (tm x) (tm y) (n + 1) (c + 1) = x * cv (tm x) (tm y) n c + y * cv (tm x) (tm y) n (c + 1)
  | 0, _ => by
    have s := tm_succ y n
    show ((n + 1 : Nat) : Rat) * (0 + 1 * tm y (n + 1)) = x * 0 + y * (0 + 1 * tm y n)
    grind
  | c + 1, h => by
    have ih := cv_step x y n c (by omega)
    obtain ⟨d, hd⟩ : ∃ d, n = c + 1 + d := ⟨n - (c + 1), by omega⟩
    have s1 := tm_succ x c
    have s2 := tm_succ y d
    show ((n + 1 : Nat) : Rat) * (cv (tm x) (tm y) (n + 1) (c + 1) + tm x (c + 1) * tm y (n + 1 - (c + 1))) = x * (cv (tm x) (tm y) n c + tm x c * tm y (n - c)) + y * (cv (tm x) (tm y) n (c + 1) + tm x (c + 1) * tm y (n - (c + 1)))
    rw [show n + 1 - (c + 1) = d + 1 by omega, show n - c = d + 1 by omega, show n - (c + 1) = d by omega]
    have en : ((n + 1 : Nat) : Rat) = ((c + 1 : Nat) : Rat) + ((d + 1 : Nat) : Rat) := by rw [← castadd]; congr 1; omega
    have l : ((n + 1 : Nat) : Rat) * (tm x (c + 1) * tm y (d + 1)) = (((c + 1 : Nat) : Rat) * tm x (c + 1)) * tm y (d + 1) + tm x (c + 1) * (((d + 1 : Nat) : Rat) * tm y (d + 1)) := by rw [en]; grind
    rw [Rat.mul_add, ih, l, s1, s2]; grind
theorem cv_full (x y : Rat) : ∀ n, cv (tm x) (tm y) n (n + 1) = tm (x + y) n
  | 0 => by show 0 + (1 : Rat) * 1 = 1; decide +kernel
  | n + 1 => by
    have ih := cv_full x y n
    have c1 := cv_step x y n n (Nat.le_refl n)
    have s1 := tm_succ x n
    have s := tm_succ (x + y) n
    refine cancel_l (nsucc_ne n) ?_
    rw [s, ← ih]
    have e1 : cv (tm x) (tm y) (n + 1) (n + 1 + 1) = cv (tm x) (tm y) (n + 1) (n + 1) + tm x (n + 1) * 1 := by
      show _ + tm x (n + 1) * tm y (n + 1 - (n + 1)) = _
      rw [Nat.sub_self]; rfl
    have e2 : cv (tm x) (tm y) n (n + 1) = cv (tm x) (tm y) n n + tm x n * 1 := by
      show _ + tm x n * tm y (n - n) = _
      rw [Nat.sub_self]; rfl
    rw [e1, Rat.mul_add, c1, Rat.mul_one, s1]
    have e3 : (x + y) * cv (tm x) (tm y) n (n + 1) = x * cv (tm x) (tm y) n (n + 1) + y * cv (tm x) (tm y) n (n + 1) := by grind
    rw [e3]
    have e4 : x * cv (tm x) (tm y) n (n + 1) = x * cv (tm x) (tm y) n n + x * tm x n := by rw [e2]; grind
    rw [e4]; grind
def pe (x y : Rat) (N : Nat) : Nat → Rat
  | 0 => 0
  | c + 1 => pe x y N c + tm x c * E y (N - c)
theorem pe_step (x y : Rat) (N : Nat) : ∀ c, c ≤ N + 1 → pe x y (N + 1) c = pe x y N c + cv (tm x) (tm y) N c
  | 0, _ => by show (0 : Rat) = 0 + 0; grind
  | c + 1, h => by
    have ih := pe_step x y N c (by omega)
    show pe x y (N + 1) c + tm x c * E y (N + 1 - c) = pe x y N c + tm x c * E y (N - c) + (cv (tm x) (tm y) N c + tm x c * tm y (N - c))
    rw [ih, show N + 1 - c = N - c + 1 by omega]
    show _ + tm x c * (E y (N - c) + tm y (N - c)) = _
    grind
theorem pe_full (x y : Rat) : ∀ N, pe x y N N = E (x + y) N
  | 0 => rfl
  | N + 1 => by
    have ih := pe_full x y N
    show pe x y (N + 1) (N + 1) = E (x + y) N + tm (x + y) N
    rw [pe_step x y N (N + 1) (Nat.le_refl _), cv_full, ← ih]
    show pe x y N N + tm x N * E y (N - N) + _ = _
    rw [Nat.sub_self]
    show pe x y N N + tm x N * 0 + _ = _
    grind
theorem pe_le {x y : Rat} (hx : 0 ≤ x) (hy : 0 ≤ y) (N : Nat) : ∀ c, pe x y N c ≤ E x c * E y N
  | 0 => by show (0 : Rat) ≤ 0 * _; rw [Rat.zero_mul]; exact Rat.le_refl
  | c + 1 => by
    have ih := pe_le hx hy N c
    have m := Rat.mul_le_mul_of_nonneg_left (E_mono hy (Nat.sub_le N c)) (tm_nn hx c)
    show pe x y N c + tm x c * E y (N - c) ≤ (E x c + tm x c) * E y N
    grind
theorem pe_ge {x y : Rat} (hx : 0 ≤ x) (hy : 0 ≤ y) (K L : Nat) : ∀ c, c ≤ K → E x c * E y L ≤ pe x y (K + L) c
  | 0, _ => by show (0 : Rat) * _ ≤ 0; rw [Rat.zero_mul]; exact Rat.le_refl
  | c + 1, h => by
    have ih := pe_ge hx hy K L c (by omega)
    have m := Rat.mul_le_mul_of_nonneg_left (E_mono hy (show L ≤ K + L - c by omega)) (tm_nn hx c)
    show (E x c + tm x c) * E y L ≤ pe x y (K + L) c + tm x c * E y (K + L - c)
    grind
theorem pe_up {x y : Rat} (hx : 0 ≤ x) (hy : 0 ≤ y) (N : Nat) {c d : Nat} (h : c ≤ d) : pe x y N c ≤ pe x y N d := by
  induction d with
  | zero => rw [show c = 0 by omega]; exact Rat.le_refl
  | succ d ih =>
    by_cases e : c = d + 1
    · rw [e]; exact Rat.le_refl
    · have := ih (by omega)
      have := Rat.mul_nonneg (tm_nn hx d) (E_nn hy (N - d))
      show pe x y N c ≤ pe x y N d + _
      grind
theorem E_add_le {x y : Rat} (hx : 0 ≤ x) (hy : 0 ≤ y) (N : Nat) : E (x + y) N ≤ E x N * E y N := by
  rw [← pe_full]; exact pe_le hx hy N N
theorem E_add_ge {x y : Rat} (hx : 0 ≤ x) (hy : 0 ≤ y) (K L : Nat) : E x K * E y L ≤ E (x + y) (K + L) := by
  rw [← pe_full]; exact Rat.le_trans (pe_ge hx hy K L K (Nat.le_refl _)) (pe_up hx hy _ (Nat.le_add_right _ _))
theorem pow_nn {x : Rat} (hx : 0 ≤ x) : ∀ n : Nat, 0 ≤ x ^ n
  | 0 => by rw [Rat.pow_zero]; decide
  | n + 1 => by rw [Rat.pow_succ]; exact Rat.mul_nonneg (pow_nn hx n) hx
theorem E_zero : ∀ K, E 0 (K + 1) = 1
  | 0 => by show (0 : Rat) + 1 = 1; decide +kernel
  | K + 1 => by
    show E 0 (K + 1) + tm 0 K * 0 / _ = 1
    rw [E_zero K, Rat.mul_zero, Rat.div_def, Rat.zero_mul, Rat.add_zero]
theorem mul_nat (j : Nat) (x : Rat) : ((j + 1 : Nat) : Rat) * x = (j : Rat) * x + x := by
  have : ((j + 1 : Nat) : Rat) = (j : Rat) + 1 := castadd j 1
  rw [this]; grind
theorem jx_nn {x : Rat} (hx : 0 ≤ x) (j : Nat) : 0 ≤ (j : Rat) * x := Rat.mul_nonneg (nat_nn j) hx
theorem E_pow_ge {x : Rat} (hx : 0 ≤ x) {K : Nat} (hK : 0 < K) : ∀ j : Nat, E ((j : Rat) * x) K ≤ E x K ^ j
  | 0 => by
    have : ((0 : Nat) : Rat) = 0 := rfl
    rw [this, Rat.zero_mul, Rat.pow_zero]
    obtain ⟨k, rfl⟩ : ∃ k, K = k + 1 := ⟨K - 1, by omega⟩
    rw [E_zero]; exact Rat.le_refl
  | j + 1 => by
    have ih := E_pow_ge hx hK j
    rw [mul_nat, Rat.pow_succ]
    exact Rat.le_trans (E_add_le (jx_nn hx j) hx K) (Rat.mul_le_mul_of_nonneg_right ih (E_nn hx K))
theorem E_pow_le {x : Rat} (hx : 0 ≤ x) (K : Nat) : ∀ j : Nat, E x K ^ j ≤ E ((j : Rat) * x) (j * K + 1)
  | 0 => by
    have : ((0 : Nat) : Rat) = 0 := rfl
    rw [this, Rat.zero_mul, Rat.pow_zero, Nat.zero_mul, E_zero]; exact Rat.le_refl
  | j + 1 => by
    have ih := E_pow_le hx K j
    rw [mul_nat, Rat.pow_succ, show (j + 1) * K + 1 = j * K + 1 + K by rw [Nat.add_mul]; omega]
    exact Rat.le_trans (Rat.mul_le_mul_of_nonneg_right ih (E_nn hx K)) (E_add_ge (jx_nn hx j) hx _ K)
theorem le_by {x y c : Rat} (hc : 0 < c) (h : x * c ≤ y * c) : x ≤ y := by
  rcases Rat.le_total (a := x) (b := y) with h1 | h1
  · exact h1
  · have h2 := Rat.mul_le_mul_of_nonneg_right h1 (by grind : (0 : Rat) ≤ c)
    have h3 : (x - y) * c = 0 := by grind
    rcases Rat.mul_eq_zero.1 h3 with h4 | h4 <;> grind
theorem tm_half {y : Rat} (hy : 0 ≤ y) {m : Nat} (h : y + y ≤ ((m + 1 : Nat) : Rat)) : tm y (m + 1) + tm y (m + 1) ≤ tm y m := by
  have s := tm_succ y m
  have p := nsucc_pos m
  refine le_by p ?_
  have n := tm_nn hy m
  have m1 := Rat.mul_le_mul_of_nonneg_right h n
  grind
theorem E_tail {y : Rat} (hy : 0 ≤ y) {N : Nat} (h : y + y ≤ ((N + 1 : Nat) : Rat)) : ∀ k, E y (N + k) + 2 * tm y (N + k) ≤ E y N + 2 * tm y N
  | 0 => Rat.le_refl
  | k + 1 => by
    have ih := E_tail hy h k
    have c : ((N + 1 : Nat) : Rat) ≤ ((N + k + 1 : Nat) : Rat) := by exact_mod_cast (by omega : N + 1 ≤ N + k + 1)
    have t := tm_half hy (m := N + k) (Rat.le_trans h c)
    show E y (N + k) + tm y (N + k) + 2 * tm y (N + k + 1) ≤ _
    grind
theorem E_tail_le {y : Rat} (hy : 0 ≤ y) {N L : Nat} (h : y + y ≤ ((N + 1 : Nat) : Rat)) : E y L ≤ E y N + 2 * tm y N := by
  by_cases g : N ≤ L
  · have t := E_tail hy h (L - N)
    rw [show N + (L - N) = L by omega] at t
    have := tm_nn hy L
    grind
  · have := E_mono hy (show L ≤ N by omega)
    have := tm_nn hy N
    grind
theorem tm_pow2 {y : Rat} (hy : 0 ≤ y) {N : Nat} (h : y + y ≤ ((N + 1 : Nat) : Rat)) : ∀ k, tm y (N + k) * t2 k ≤ tm y N
  | 0 => by show tm y N * 1 ≤ tm y N; rw [Rat.mul_one]; exact Rat.le_refl
  | k + 1 => by
    have ih := tm_pow2 hy h k
    have c : ((N + 1 : Nat) : Rat) ≤ ((N + k + 1 : Nat) : Rat) := by exact_mod_cast (by omega : N + 1 ≤ N + k + 1)
    have t := tm_half hy (m := N + k) (Rat.le_trans h c)
    have m := Rat.mul_le_mul_of_nonneg_right t (Rat.le_of_lt (t2_pos k))
    rw [t2_succ]
    show tm y (N + k + 1) * (t2 k + t2 k) ≤ _
    grind
theorem denR (D : Rat) : D * (D.den : Rat) = (D.num : Rat) := by
  have dn : (0 : Rat) < (D.den : Rat) := by exact_mod_cast Rat.den_pos (self := D)
  have := (Rat.mkRat_eq_div D.num D.den).symm.trans (Rat.mkRat_self D)
  have e := Rat.div_mul_cancel (a := (D.num : Rat)) (b := (D.den : Rat)) (by grind)
  rwa [this] at e
theorem le_nat (D : Rat) : ∃ n : Nat, D ≤ (n : Rat) := by
  refine ⟨D.num.natAbs, ?_⟩
  have e := denR D
  have h1 : (1 : Rat) ≤ (D.den : Rat) := by exact_mod_cast D.den_pos
  have h2 : (D.num : Rat) ≤ ((D.num.natAbs : Int) : Rat) := Rat.intCast_le_intCast.2 (by omega)
  have h3 : ((D.num.natAbs : Int) : Rat) = (D.num.natAbs : Rat) := rfl
  rw [h3] at h2
  rcases Rat.le_total (a := D) (b := 0) with g | g
  · exact Rat.le_trans g (nat_nn _)
  · have := Rat.mul_le_mul_of_nonneg_left h1 g
    grind
theorem nat_t2 (n : Nat) : (n : Rat) ≤ t2 n := by
  have : n ≤ 2 ^ n := Nat.le_of_lt (Nat.lt_two_pow_self)
  exact_mod_cast this
theorem tm_small {y : Rat} (hy : 0 ≤ y) {e : Rat} (he : 0 < e) : ∃ N : Nat, ∀ m, N ≤ m → y + y ≤ ((m + 1 : Nat) : Rat) ∧ 2 * tm y m ≤ e := by
  obtain ⟨n0, h0⟩ := le_nat (y + y)
  obtain ⟨n1, h1⟩ := le_nat (2 * tm y n0 / e)
  have hn : y + y ≤ ((n0 + 1 : Nat) : Rat) := Rat.le_trans h0 (by exact_mod_cast Nat.le_succ n0)
  refine ⟨n0 + n1, fun m hm => ⟨Rat.le_trans hn (by exact_mod_cast (by omega : n0 + 1 ≤ m + 1)), ?_⟩⟩
  have t := tm_pow2 hy hn (m - n0)
  rw [show n0 + (m - n0) = m by omega] at t
  have a : (n1 : Rat) ≤ t2 (m - n0) := Rat.le_trans (nat_t2 n1) (t2_mono (by omega))
  have b := Rat.le_trans h1 a
  have c := Rat.mul_le_mul_of_nonneg_right b (Rat.le_of_lt he)
  rw [Rat.div_mul_cancel (by grind)] at c
  have P := t2_pos (m - n0)
  refine le_by P ?_
  generalize t2 (m - n0) = w at *
  grind
end Go.Ex
namespace Go.Ex
theorem castpow (z : Int) : ∀ n : Nat, ((z ^ n : Int) : Rat) = (z : Rat) ^ n
  | 0 => by rw [Int.pow_zero, Rat.pow_zero]; rfl
  | n + 1 => by rw [Int.pow_succ, Rat.pow_succ, Rat.intCast_mul, castpow z n]
theorem castpowN (z : Nat) : ∀ n : Nat, ((z ^ n : Nat) : Rat) = (z : Rat) ^ n
  | 0 => by rw [Nat.pow_zero, Rat.pow_zero]; rfl
  | n + 1 => by rw [Nat.pow_succ, Rat.pow_succ, castmul, castpowN z n]
theorem pow_plus (q : Rat) (m : Nat) : ∀ n : Nat, q ^ (m + n) = q ^ m * q ^ n
  | 0 => by rw [Nat.add_zero, Rat.pow_zero, Rat.mul_one]
  | n + 1 => by rw [← Nat.add_assoc, Rat.pow_succ, pow_plus q m n, Rat.pow_succ, Rat.mul_assoc]
theorem mul_powR (p q : Rat) : ∀ n : Nat, (p * q) ^ n = p ^ n * q ^ n
  | 0 => by rw [Rat.pow_zero, Rat.pow_zero, Rat.pow_zero]; decide +kernel
  | n + 1 => by rw [Rat.pow_succ, mul_powR p q n, Rat.pow_succ, Rat.pow_succ]; grind
theorem coef_int {j n i : Nat} (hj : j < 65) : isI (coef j (nds n) i * ((F64 : Rat) ^ n * (L64 : Rat) ^ n)) := by
  unfold coef
  rw [nds_cnt hj]
  split
  · rename_i h
    have s := ser_int (A := L64) j (nds n) (fun t ht hne => sub_dvd hj (nds_lt n t ht) hne) (n - 1 - i)
    rw [prd_nds, castpow] at s
    obtain ⟨z, hz⟩ := prd_dvd hj
    rw [hz, Rat.intCast_mul, mul_powR, show n = (n - 1 - i) + (i + 1) by omega, pow_plus (L64 : Rat)]
    have e := isI_mul s (isI_mul (isI_pow (isI_int z) n) (isI_pow (isI_int L64) (i + 1)))
    rw [show n - 1 - i + (i + 1) = n by omega]
    obtain ⟨w, hw⟩ := e
    refine ⟨w, ?_⟩
    rw [← hw]; grind
  · rw [Rat.zero_mul]; exact isI_zero
def fac : Nat → Nat
  | 0 => 1
  | n + 1 => fac n * (n + 1)
theorem fac_pos : ∀ n, 0 < fac n
  | 0 => Nat.one_pos
  | n + 1 => Nat.mul_pos (fac_pos n) (Nat.succ_pos n)
theorem fac_dvd (i : Nat) : ∀ d, fac i ∣ fac (i + d)
  | 0 => Nat.dvd_refl _
  | d + 1 => Nat.dvd_trans (fac_dvd i d) (Nat.dvd_mul_right _ _)
theorem tm_fac (x : Rat) : ∀ m, tm x m * (fac m : Rat) = x ^ m
  | 0 => by rw [Rat.pow_zero]; show (1 : Rat) * ((1 : Nat) : Rat) = 1; decide +kernel
  | m + 1 => by
    have s := tm_succ x m
    show tm x (m + 1) * ((fac m * (m + 1) : Nat) : Rat) = _
    rw [castmul, Rat.pow_succ, ← tm_fac x m]
    have : tm x (m + 1) * ((fac m : Rat) * ((m + 1 : Nat) : Rat)) = (((m + 1 : Nat) : Rat) * tm x (m + 1)) * (fac m : Rat) := by grind
    rw [this, s]; grind
theorem tm_int {x : Rat} {a b : Nat} (hx : x * (b : Rat) = (a : Rat)) {i n : Nat} (h : i ≤ n) : isI (tm x i * ((b : Rat) ^ n * (fac n : Rat))) := by
  obtain ⟨d, rfl⟩ : ∃ d, n = i + d := ⟨n - i, by omega⟩
  obtain ⟨q, hq⟩ := fac_dvd i d
  rw [hq, castmul, pow_plus]
  have t := tm_fac x i
  have e : tm x i * ((b : Rat) ^ i * (b : Rat) ^ d * ((fac i : Rat) * (q : Rat))) = (x * (b : Rat)) ^ i * ((b : Rat) ^ d * (q : Rat)) := by
    rw [mul_powR, ← t]; grind
  rw [e, hx]
  exact isI_mul (isI_pow (isI_nat a) i) (isI_mul (isI_pow (isI_nat b) d) (isI_nat q))
theorem al_int {al : Rat} {u v : Nat} (h : al * (v : Rat) = (u : Rat)) {j J : Nat} (hj : j ≤ J) : isI (al ^ j * (v : Rat) ^ J) := by
  obtain ⟨d, rfl⟩ : ∃ d, J = j + d := ⟨J - j, by omega⟩
  rw [pow_plus]
  have e : al ^ j * ((v : Rat) ^ j * (v : Rat) ^ d) = (al * (v : Rat)) ^ j * (v : Rat) ^ d := by rw [mul_powR]; grind
  rw [e, h]
  exact isI_mul (isI_pow (isI_nat u) j) (isI_pow (isI_nat v) d)
theorem lv1_int {a : Nat → Rat} {x y C T V : Rat} (hC : ∀ i, isI (a i * C)) : ∀ c, (∀ i, i < c → isI (tm x i * T)) → isI (y * V) → isI (lv1 a x (fun _ => y) c * (C * T * V))
  | 0, _, _ => by show isI (0 * _); rw [Rat.zero_mul]; exact isI_zero
  | c + 1, hT, hV => by
    have ih := lv1_int (x := x) hC c (fun i hi => hT i (by omega)) hV
    have t := isI_mul (isI_mul (hC c) (hT c (by omega))) hV
    have e : lv1 a x (fun _ => y) (c + 1) * (C * T * V) = lv1 a x (fun _ => y) c * (C * T * V) + a c * C * (tm x c * T) * (y * V) := by
      show (lv1 a x (fun _ => y) c + a c * tm x c * y) * (C * T * V) = _
      grind
    rw [e]; exact isI_add ih t
theorem LV_int {n : Nat} {x al T V : Rat} (hT : ∀ i, i < n → isI (tm x i * T)) : ∀ J, J ≤ 65 → (∀ j, j < J → isI (al ^ j * V)) → isI (LV (nds n) x (fun j _ => al ^ j) J * ((F64 : Rat) ^ n * (L64 : Rat) ^ n * T * V))
  | 0, _, _ => by show isI (0 * _); rw [Rat.zero_mul]; exact isI_zero
  | J + 1, hJ, hV => by
    have ih := LV_int (al := al) hT J (by omega) (fun j hj => hV j (by omega))
    have t := lv1_int (a := coef J (nds n)) (x := x) (y := al ^ J) (C := (F64 : Rat) ^ n * (L64 : Rat) ^ n) (T := T) (V := V) (fun i => coef_int (by omega)) n hT (hV J (by omega))
    have e : LV (nds n) x (fun j _ => al ^ j) (J + 1) = LV (nds n) x (fun j _ => al ^ j) J + lv1 (coef J (nds n)) x (fun _ => al ^ J) n := by
      show _ + lv1 _ x _ ((nds n).count J) = _
      rw [nds_cnt (by omega)]
    rw [e, Rat.add_mul]
    exact isI_add ih t
theorem Rn_nn {M : List Nat} {x : Rat} (hx : 0 ≤ x) : ∀ K, 0 ≤ Rn M x K
  | 0 => Rat.le_refl
  | K + 1 => by
    have := Rn_nn (M := M) hx K
    have := Rat.mul_nonneg (nat_nn (Hn M K)) (tm_nn hx K)
    show 0 ≤ Rn M x K + _
    grind
theorem Rn_ge {M : List Nat} {x : Rat} {N : Nat} (hx : 0 ≤ x) (hN : N + 1 = M.length) : ∀ K, N < K → tm x N ≤ Rn M x K
  | K + 1, h => by
    show tm x N ≤ Rn M x K + (Hn M K : Rat) * tm x K
    by_cases e : N = K
    · subst e
      rw [Hn_first M N hN]
      have := Rn_nn (M := M) hx N
      have h1 : ((1 : Nat) : Rat) = 1 := rfl
      rw [h1]; grind
    · have ih := Rn_ge hx hN K (by omega)
      have := Rat.mul_nonneg (nat_nn (Hn M K)) (tm_nn hx K)
      grind
theorem Rn_le {M : List Nat} {x : Rat} {N c : Nat} (hx : 0 ≤ x) (hN : N + 1 = M.length) (hM : ∀ t ∈ M, t ≤ c) : ∀ K, Rn M x K ≤ tm x N * E ((c : Rat) * x) (K - N)
  | 0 => by
    show (0 : Rat) ≤ tm x N * E _ (0 - N)
    exact Rat.mul_nonneg (tm_nn hx N) (E_nn (jx_nn hx c) _)
  | K + 1 => by
    have ih := Rn_le hx hN hM K
    show Rn M x K + (Hn M K : Rat) * tm x K ≤ _
    by_cases h : N ≤ K
    · rw [show K + 1 - N = K - N + 1 by omega]
      show _ ≤ tm x N * (E ((c : Rat) * x) (K - N) + tm ((c : Rat) * x) (K - N))
      have b := bw_tm (c : Rat) x h
      have hl := Hn_le M K hM (by omega)
      rw [show M.length - 1 = N by omega] at hl
      have hr : (Hn M K : Rat) ≤ bw (c : Rat) K N := by
        have : ((Hn M K : Nat) : Rat) ≤ ((bin K N * c ^ (K - N) : Nat) : Rat) := by exact_mod_cast hl
        rw [castmul, castpowN] at this
        exact this
      have m := Rat.mul_le_mul_of_nonneg_right hr (tm_nn hx K)
      rw [b] at m
      grind
    · rw [Hn_small M K (by omega), show K + 1 - N = K - N by omega]
      have : ((0 : Nat) : Rat) = 0 := rfl
      rw [this, Rat.zero_mul, Rat.add_zero]; exact ih
theorem bern (N : Nat) : ∀ k, k ≤ N + 1 → (N + 1 - k) * (N + 1) ^ k ≤ (N + 1) * N ^ k
  | 0, _ => by rw [Nat.pow_zero, Nat.pow_zero, Nat.sub_zero]; exact Nat.le_refl _
  | k + 1, h => by
    have ih := bern N k (by omega)
    obtain ⟨d, hd⟩ : ∃ d, N = k + d := ⟨N - k, by omega⟩
    have m := Nat.mul_le_mul_right N ih
    rw [Nat.pow_succ, Nat.pow_succ, show N + 1 - (k + 1) = d by omega]
    rw [show N + 1 - k = d + 1 by omega] at m
    refine Nat.le_trans ?_ (Nat.le_trans m (by rw [Nat.mul_assoc]; exact Nat.le_refl _))
    have e1 : d * ((N + 1) ^ k * (N + 1)) = d * (N + 1) * (N + 1) ^ k := by rw [Nat.mul_comm ((N + 1) ^ k), Nat.mul_assoc]
    have e2 : (d + 1) * (N + 1) ^ k * N = (d + 1) * N * (N + 1) ^ k := by rw [Nat.mul_assoc, Nat.mul_comm ((N + 1) ^ k), Nat.mul_assoc]
    rw [e1, e2]
    refine Nat.mul_le_mul_right _ ?_
    rw [Nat.mul_add, Nat.add_mul, Nat.mul_one, Nat.one_mul]; omega
theorem four (N : Nat) : (N + 1) ^ N ≤ 4 * N ^ N := by
  have key : ∀ k, 2 * k ≤ N + 1 → (N + 1) ^ k ≤ 2 * N ^ k := by
    intro k hk
    have b := bern N k (by omega)
    have m := Nat.mul_le_mul_right ((N + 1) ^ k) (show N + 1 ≤ 2 * (N + 1 - k) by omega)
    have : (N + 1) * (N + 1) ^ k ≤ (N + 1) * (2 * N ^ k) := by
      refine Nat.le_trans m ?_
      rw [Nat.mul_assoc 2, Nat.mul_left_comm (N + 1) 2]
      exact Nat.mul_le_mul_left 2 b
    exact Nat.le_of_mul_le_mul_left this (Nat.succ_pos N)
  have sq : ∀ k, 2 * k ≤ N + 1 → (N + 1) ^ (2 * k) ≤ 4 * N ^ (2 * k) := by
    intro k hk
    have h := key k hk
    have m := Nat.mul_le_mul h h
    rw [show 2 * k = k + k by omega, Nat.pow_add, Nat.pow_add]
    refine Nat.le_trans m ?_
    have : 2 * N ^ k * (2 * N ^ k) = 4 * (N ^ k * N ^ k) := by rw [Nat.mul_mul_mul_comm]
    rw [this]; exact Nat.le_refl _
  by_cases h : N % 2 = 0
  · have := sq (N / 2) (by omega)
    rwa [show 2 * (N / 2) = N by omega] at this
  · have := sq ((N + 1) / 2) (by omega)
    rw [show 2 * ((N + 1) / 2) = N + 1 by omega, Nat.pow_succ, Nat.pow_succ] at this
    have h2 : (N + 1) ^ N * (N + 1) ≤ 4 * N ^ N * (N + 1) := by
      refine Nat.le_trans this ?_
      rw [← Nat.mul_assoc]
      exact Nat.mul_le_mul_left _ (Nat.le_succ N)
    exact Nat.le_of_mul_le_mul_right h2 (Nat.succ_pos N)
theorem fac_low : ∀ N, N ^ N ≤ 4 ^ N * fac N
  | 0 => Nat.le_refl _
  | N + 1 => by
    have ih := fac_low N
    have f := four N
    show (N + 1) ^ N * (N + 1) ≤ 4 ^ N * 4 * (fac N * (N + 1))
    have e : 4 ^ N * 4 * (fac N * (N + 1)) = 4 * (4 ^ N * fac N) * (N + 1) := by
      rw [Nat.mul_comm (4 ^ N) 4, Nat.mul_assoc 4, Nat.mul_assoc 4, Nat.mul_assoc (4 ^ N)]
    rw [e]
    exact Nat.mul_le_mul_right _ (Nat.le_trans f (Nat.mul_le_mul_left 4 ih))
theorem fac_up : ∀ N, fac N ≤ N ^ N
  | 0 => Nat.le_refl _
  | N + 1 => by
    show fac N * (N + 1) ≤ (N + 1) ^ N * (N + 1)
    exact Nat.mul_le_mul_right _ (Nat.le_trans (fac_up N) (Nat.pow_le_pow_left (Nat.le_succ N) N))
end Go.Ex
