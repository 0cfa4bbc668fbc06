/- Part 10 of the proof: the evaluator, contracts of functions and their plain laws (joined by program). No condition. -/
import Derived.Test.YtemnjalaincijaaGreatPart9
set_option linter.unusedVariables false
set_option linter.unusedSimpArgs false
set_option maxRecDepth 100000
namespace Go.Proofs.YtemnjalaincijaaGreat
open Go.Ev
theorem divZ_neg {n d : Nat} (hd : 0 < d) : -(n : Int) / (d : Int) = -((cdv n d : Nat) : Int) := by
  have h := cdZ_nat (n := n) hd
  unfold cdZ at h
  omega
theorem cdZ_neg {n d : Nat} : cdZ (-(n : Int)) d = -((n / d : Nat) : Int) := by
  unfold cdZ
  rw [Int.neg_neg, ← Int.natCast_ediv]
theorem loQ_mix {a b c d : Nat} (h1 : a ≤ b) (h2 : c ≤ d) : loQ a b (-(d : Int)) (-(c : Int)) = -((b * d : Nat) : Int) ∧ hiQ a b (-(d : Int)) (-(c : Int)) = -((a * c : Nat) : Int) := by
  have e1 : a * c ≤ a * d := Nat.mul_le_mul_left _ h2
  have e2 : a * c ≤ b * c := Nat.mul_le_mul_right _ h1
  have e3 : b * c ≤ b * d := Nat.mul_le_mul_left _ h2
  have e4 : a * d ≤ b * d := Nat.mul_le_mul_right _ h1
  unfold loQ loP hiQ hiP mnZ mxZ
  rw [Int.mul_neg, Int.mul_neg, Int.mul_neg, Int.mul_neg, ← Int.natCast_mul, ← Int.natCast_mul, ← Int.natCast_mul, ← Int.natCast_mul]
  generalize a * c = x1 at *
  generalize a * d = x2 at *
  generalize b * c = x3 at *
  generalize b * d = x4 at *
  constructor <;> (repeat' split) <;> omega
theorem loQ_neg {a b c d : Nat} (h1 : a ≤ b) (h2 : c ≤ d) : loQ (-(b : Int)) (-(a : Int)) (-(d : Int)) (-(c : Int)) = ((a * c : Nat) : Int) ∧ hiQ (-(b : Int)) (-(a : Int)) (-(d : Int)) (-(c : Int)) = ((b * d : Nat) : Int) := by
  have e1 : a * c ≤ a * d := Nat.mul_le_mul_left _ h2
  have e2 : a * c ≤ b * c := Nat.mul_le_mul_right _ h1
  have e3 : b * c ≤ b * d := Nat.mul_le_mul_left _ h2
  have e4 : a * d ≤ b * d := Nat.mul_le_mul_right _ h1
  unfold loQ loP hiQ hiP mnZ mxZ
  rw [Int.neg_mul_neg, Int.neg_mul_neg, Int.neg_mul_neg, Int.neg_mul_neg, ← Int.natCast_mul, ← Int.natCast_mul, ← Int.natCast_mul, ← Int.natCast_mul]
  generalize a * c = x1 at *
  generalize a * d = x2 at *
  generalize b * c = x3 at *
  generalize b * d = x4 at *
  constructor <;> (repeat' split) <;> omega
def sgL (i t1 t2 : Nat) : Int := if i % 2 = 1 then (t1 : Int) else -(t2 : Int)
def sgH (i t1 t2 : Nat) : Int := if i % 2 = 1 then (t2 : Int) else -(t1 : Int)
theorem ey_round {w Y1 Y2 i t1 t2 : Nat} {s1 s2 : Int} (hw0 : 0 < w) (hw : w ≤ 4096) (hi : 1 ≤ i) (hi2 : i < 1000000) (h12 : Y1 ≤ Y2) (ht : t1 ≤ t2) (lY : (lim Y2).length ≤ 1000) (lt : (lim t2).length ≤ 1000) (l1 : (lim s1.natAbs).length ≤ 1000) (l2 : (lim s2.natAbs).length ≤ 1000) :
    ∃ V1 V2 : Int, Go.Ev.Fn CX 109 [ivV (sgL i t1 t2) (sgH i t1 t2), ivV (-(Y2 : Int)) (-(Y1 : Int)), .int .i64 (w : Int)] (ivV V1 V2) ∧
      Go.Ev.Fn CX 184 [ivV V1 V2, .int .i64 (i : Int)] (ivV (sgL (i + 1) (t1 * Y1 / 2 ^ w / i) (cdv (cdv (t2 * Y2) (2 ^ w)) i)) (sgH (i + 1) (t1 * Y1 / 2 ^ w / i) (cdv (cdv (t2 * Y2) (2 ^ w)) i))) ∧
      Go.Ev.Fn CX 99 [ivV s1 s2, ivV (sgL (i + 1) (t1 * Y1 / 2 ^ w / i) (cdv (cdv (t2 * Y2) (2 ^ w)) i)) (sgH (i + 1) (t1 * Y1 / 2 ^ w / i) (cdv (cdv (t2 * Y2) (2 ^ w)) i))] (ivV (if i % 2 = 1 then s1 - (cdv (cdv (t2 * Y2) (2 ^ w)) i : Nat) else s1 + (t1 * Y1 / 2 ^ w / i : Nat)) (if i % 2 = 1 then s2 - (t1 * Y1 / 2 ^ w / i : Nat) else s2 + (cdv (cdv (t2 * Y2) (2 ^ w)) i : Nat))) ∧
      Go.Ev.Fn CX 185 [ivV (sgL (i + 1) (t1 * Y1 / 2 ^ w / i) (cdv (cdv (t2 * Y2) (2 ^ w)) i)) (sgH (i + 1) (t1 * Y1 / 2 ^ w / i) (cdv (cdv (t2 * Y2) (2 ^ w)) i))] (intN (cdv (cdv (t2 * Y2) (2 ^ w)) i)) := by
  have P : 0 < 2 ^ w := Nat.pow_pos (by omega)
  have lt1 := lim_len_mono ht
  have lY1 := lim_len_mono h12
  have z := lim_len_mul (a := t2) (b := Y2)
  have lv2 := lim_len_mono (cdv_self (t2 * Y2) P)
  have v12 : t1 * Y1 / 2 ^ w ≤ cdv (t2 * Y2) (2 ^ w) := div_le_cdv P (Nat.mul_le_mul ht h12)
  have lv1 := lim_len_mono v12
  have u12 : t1 * Y1 / 2 ^ w / i ≤ cdv (cdv (t2 * Y2) (2 ^ w)) i := div_le_cdv hi v12
  have lu2 := lim_len_mono (cdv_self (cdv (t2 * Y2) (2 ^ w)) hi)
  have lu1 := lim_len_mono u12
  by_cases g : i % 2 = 1
  · have eL : sgL i t1 t2 = (t1 : Int) := if_pos g
    have eH : sgH i t1 t2 = (t2 : Int) := if_pos g
    have pr := ref4_Prod (a := (t1 : Int)) (b := (t2 : Int)) (c := -(Y2 : Int)) (d := -(Y1 : Int)) (w := w) (by rw [Int.natAbs_natCast]; omega) (by rw [Int.natAbs_natCast]; omega) (by rw [Int.natAbs_neg, Int.natAbs_natCast]; omega) (by rw [Int.natAbs_neg, Int.natAbs_natCast]; omega) hw hw0
    rw [(loQ_mix ht h12).1, (loQ_mix ht h12).2, divZ_neg P, cdZ_neg] at pr
    have e1 : sgL (i + 1) (t1 * Y1 / 2 ^ w / i) (cdv (cdv (t2 * Y2) (2 ^ w)) i) = -((cdv (cdv (t2 * Y2) (2 ^ w)) i : Nat) : Int) := if_neg (by omega)
    have e2 : sgH (i + 1) (t1 * Y1 / 2 ^ w / i) (cdv (cdv (t2 * Y2) (2 ^ w)) i) = -((t1 * Y1 / 2 ^ w / i : Nat) : Int) := if_neg (by omega)
    rw [eL, eH, e1, e2, if_pos g, if_pos g]
    generalize cdv (t2 * Y2) (2 ^ w) = v2 at *
    generalize t1 * Y1 / 2 ^ w = v1 at *
    have by1 := ref4_By (a := -(v2 : Int)) (b := -(v1 : Int)) (by rw [Int.natAbs_neg, Int.natAbs_natCast]; omega) (by rw [Int.natAbs_neg, Int.natAbs_natCast]; omega) i hi (by omega)
    rw [divZ_neg hi, cdZ_neg] at by1
    generalize cdv v2 i = u2 at *
    generalize v1 / i = u1 at *
    have sm := ref4_Sum (a := s1) (b := s2) (c := -(u2 : Int)) (d := -(u1 : Int)) (by omega) (by omega) (by rw [Int.natAbs_neg, Int.natAbs_natCast]; omega) (by rw [Int.natAbs_neg, Int.natAbs_natCast]; omega)
    have mo := ref4_Most (a := -(u2 : Int)) (b := -(u1 : Int)) (by rw [Int.natAbs_neg, Int.natAbs_natCast]; omega) (by rw [Int.natAbs_neg, Int.natAbs_natCast]; omega)
    rw [Int.natAbs_neg, Int.natAbs_neg, Int.natAbs_natCast, Int.natAbs_natCast, Nat.max_eq_left u12, intN_eq] at mo
    rw [← Int.sub_eq_add_neg, ← Int.sub_eq_add_neg] at sm
    exact ⟨_, _, pr, by1, sm, mo⟩
  · have eL : sgL i t1 t2 = -(t2 : Int) := if_neg g
    have eH : sgH i t1 t2 = -(t1 : Int) := if_neg g
    have pr := ref4_Prod (a := -(t2 : Int)) (b := -(t1 : Int)) (c := -(Y2 : Int)) (d := -(Y1 : Int)) (w := w) (by rw [Int.natAbs_neg, Int.natAbs_natCast]; omega) (by rw [Int.natAbs_neg, Int.natAbs_natCast]; omega) (by rw [Int.natAbs_neg, Int.natAbs_natCast]; omega) (by rw [Int.natAbs_neg, Int.natAbs_natCast]; omega) hw hw0
    rw [(loQ_neg ht h12).1, (loQ_neg ht h12).2, cdZ_nat P, ← Int.natCast_ediv] at pr
    have e1 : sgL (i + 1) (t1 * Y1 / 2 ^ w / i) (cdv (cdv (t2 * Y2) (2 ^ w)) i) = ((t1 * Y1 / 2 ^ w / i : Nat) : Int) := if_pos (by omega)
    have e2 : sgH (i + 1) (t1 * Y1 / 2 ^ w / i) (cdv (cdv (t2 * Y2) (2 ^ w)) i) = ((cdv (cdv (t2 * Y2) (2 ^ w)) i : Nat) : Int) := if_pos (by omega)
    rw [eL, eH, e1, e2, if_neg g, if_neg g]
    generalize cdv (t2 * Y2) (2 ^ w) = v2 at *
    generalize t1 * Y1 / 2 ^ w = v1 at *
    have by1 := ref4_By (a := (v1 : Int)) (b := (v2 : Int)) (by rw [Int.natAbs_natCast]; omega) (by rw [Int.natAbs_natCast]; omega) i hi (by omega)
    rw [cdZ_nat hi, ← Int.natCast_ediv] at by1
    generalize cdv v2 i = u2 at *
    generalize v1 / i = u1 at *
    have sm := ref4_Sum (a := s1) (b := s2) (c := (u1 : Int)) (d := (u2 : Int)) (by omega) (by omega) (by rw [Int.natAbs_natCast]; omega) (by rw [Int.natAbs_natCast]; omega)
    have mo := ref4_Most (a := (u1 : Int)) (b := (u2 : Int)) (by rw [Int.natAbs_natCast]; omega) (by rw [Int.natAbs_natCast]; omega)
    rw [Int.natAbs_natCast, Int.natAbs_natCast, Nat.max_eq_right u12, intN_eq] at mo
    exact ⟨_, _, pr, by1, sm, mo⟩
section
variable {w Y1 Y2 : Nat}
set_option maxHeartbeats 1000000 in
theorem ref6_row (hw0 : 64 ≤ w) (hw : w ≤ 900) (hY : 4 * Y2 ≤ 2 ^ w) (h12 : Y1 ≤ Y2) : ∃ A B : Nat, 0 < A ∧ A ≤ B ∧ B ≤ 2 ^ (w + 1) ∧ nRow w Y1 Y2 (w / 2 + 3) 1 (2 ^ w) (2 ^ w) (2 ^ w : Nat) (2 ^ w : Nat) = some ((A : Int), (B : Int)) ∧
    Go.Ev.Fn CX 145 [ivV (-(Y2 : Int)) (-(Y1 : Int)), .int .i64 (w : Int)] (ivN A B) := by
  have i0 := nInv_0 w
  have big : 64 * 64 ≤ 2 ^ w := Nat.le_trans (show 64 * 64 ≤ 2 ^ 64 by decide) (Nat.pow_le_pow_right (by omega) hw0)
  have bw : 16 * w ≤ 2 ^ w := by
    have h1 : 16 * w ≤ 2 ^ 14 := by omega
    exact Nat.le_trans h1 (Nat.pow_le_pow_right (by omega) (by omega))
  obtain ⟨A', B', hr, hAB, hA, hB⟩ := nRow_end (w := w) hY h12 (w / 2 + 1) (w / 2 + 3) 1 (2 ^ w) (2 ^ w) _ _ i0 (by
    have e : 4 ^ (w / 2 + 1) = 2 ^ (2 * (w / 2 + 1)) := by rw [Nat.pow_mul]
    rw [e]
    have := Nat.pow_le_pow_right (n := 2) (by omega) (show w ≤ 2 * (w / 2 + 1) by omega)
    omega) (by omega)
  obtain ⟨A, rfl⟩ : ∃ A : Nat, A' = (A : Int) := ⟨A'.toNat, by omega⟩
  obtain ⟨B, rfl⟩ : ∃ B : Nat, B' = (B : Int) := ⟨B'.toNat, by omega⟩
  have e1 : 2 ^ (w + 1) = 2 ^ w * 2 := Nat.pow_succ _ _
  refine ⟨A, B, by omega, by omega, by omega, hr, ?_⟩
  have lp := lim_len_p2 (n := 2 ^ w) (w := w) (Nat.le_refl _) (by omega)
  have lY : (lim Y2).length ≤ 40 := lim_len_p2 (w := w) (by omega) (by omega)
  have lens := fun (i t1 t2 : Nat) (s1 s2 : Int) (hi : i ≤ w) (h : nInv w i t1 t2 s1 s2) => (show (lim t2).length ≤ 40 ∧ (lim s1.natAbs).length ≤ 80 ∧ (lim s2.natAbs).length ≤ 80 ∧ t1 ≤ t2 ∧ 1 ≤ i from by
    obtain ⟨q1, q2, q3, q4, q5, q6⟩ := h
    exact ⟨lim_len_p2 q3 (by omega), Nat.le_trans (lim_len_p2 (w := w + 1) (by omega) (by omega)) (by omega), Nat.le_trans (lim_len_p2 (w := w + 1) (by omega) (by omega)) (by omega), q2, q1⟩)
  have step := fun (i t1 t2 : Nat) (s1 s2 : Int) (h : nInv w i t1 t2 s1 s2) => nInv_step (Y1 := Y1) hY h12 h
  have n1 := ref4_NumN (w := w) (RatA_rv (one_szR')) (by omega) (by omega) (by omega) (show (0 : Rat) ≤ 1 by decide)
  have u1 : unN 1 w = 2 ^ w := by show 1 * 2 ^ w / 1 = _; rw [Nat.one_mul, Nat.div_one]
  have u2 : upN 1 w = 2 ^ w := by show cdv (1 * 2 ^ w) 1 = _; unfold cdv; rw [Nat.one_mul, Nat.div_one]; omega
  rw [u1, u2] at n1
  have i1 := ref2_Int 1 (by omega)
  rw [show ((1 : Int) : Rat) = 1 from rfl] at i1
  have w2 := ref4_Whole 2 (by omega)
  rw [show (2 : Int) = ((2 : Nat) : Int) from rfl, intN_eq] at w2
  have l2 : (lim 2).length ≤ 1 := lim_len_one (by decide)
  have b0 : decide ((((2 ^ w : Nat) : Int)) < 0) = false := decide_eq_false (by omega)
  obtain ⟨yn1, hyn1⟩ : ∃ z : Int, z = -(Y2 : Int) := ⟨_, rfl⟩
  obtain ⟨yn2, hyn2⟩ : ∃ z : Int, z = -(Y1 : Int) := ⟨_, rfl⟩
  have rnd := fun (i t1 t2 : Nat) (s1 s2 : Int) => ey_round (w := w) (Y1 := Y1) (Y2 := Y2) (i := i) (t1 := t1) (t2 := t2) (s1 := s1) (s2 := s2) (by omega) (by omega)
  rw [← hyn1, ← hyn2] at rnd ⊢
  clear u1 u2 hA hB hAB e1 big bw
  refine Go.Ev.Fn.intro (fn := Tryz.f145) (body := (Tryz.f145).body.get!) (by kernel_rfl) (by kernel_rfl) (by kernel_rfl) (fun _ => rfl) (Nat.le_of_ble_eq_true (by kernel_rfl)) ?_; unfold Tryz.f145; simp only [Option.get!_some]
  repeat (first | (simp only [go_sem, Nat.reduceEqDiff, Nat.reduceAdd, Nat.reduceSub, Nat.reduceMul, Nat.reduceLeDiff, Nat.reduceLT, reduceIte, reduceCtorEq, Nat.succ_ne_zero, elemsC, Int.reduceToNat, Nat.reducePow]) | (simp (disch := (first | omega | (simp only [AL, List.length_map]; omega))) only [AR, AL, ifT, ifF, take_all, List.length_cons, List.length_nil, Int.reduceToNat, Int.reducePow, Nat.reducePow]) | (refine wk_intro (by kernel_rfl) ?_) | (refine vp_draw (id := 2) (l := []) (by kernel_rfl) ?_) | (refine vf_of (by first | exact i1 | exact n1) ?_))
  refine vp_loop_inv (fun s => s.tmp 1 = .sv (.int .i64 (w : Int)) ∧ s.tmp 2 = .ptr 2 0 0 ∧ s.obj 2 0 = some [.bool (decide (yn1 < 0)), natV (lim yn1.natAbs), .bool (decide (yn2 < 0)), natV (lim yn2.natAbs)] ∧ s.tmp 4 = .ptr 4 0 0 ∧ s.obj 4 0 = some [.bool false, .sl 0 [], .bool false, .sl 0 []] ∧ s.tmp 6 = .ptr 6 0 0 ∧ s.tmp 7 = .ptr 7 0 0 ∧
      ∃ f i t1 t2 : Nat, ∃ s1 s2 : Int, s.tmp 8 = .sv (.int .i64 (i : Int)) ∧ f + i = w / 2 + 4 ∧ nRow w Y1 Y2 f i t1 t2 s1 s2 = some ((A : Int), (B : Int)) ∧ s.obj 6 0 = some [.bool (decide (s1 < 0)), natV (lim s1.natAbs), .bool (decide (s2 < 0)), natV (lim s2.natAbs)] ∧ s.obj 7 0 = some [.bool (decide (sgL i t1 t2 < 0)), natV (lim (sgL i t1 t2).natAbs), .bool (decide (sgH i t1 t2 < 0)), natV (lim (sgH i t1 t2).natAbs)] ∧ nInv w i t1 t2 s1 s2)
    (fun s => match s.tmp 8 with | .sv (.int _ i) => w / 2 + 5 - i.toNat | _ => 0) ⟨rfl, rfl, rfl, rfl, rfl, rfl, rfl, _, 1, _, _, _, _, rfl, by omega, hr, by rw [b0, Int.natAbs_natCast]; rfl, by rw [show sgL 1 (2 ^ w) (2 ^ w) = ((2 ^ w : Nat) : Int) from rfl, show sgH 1 (2 ^ w) (2 ^ w) = ((2 ^ w : Nat) : Int) from rfl, b0, Int.natAbs_natCast]; rfl, i0⟩ ?_
  rintro s ⟨i1', i2, o2, i4, o4, i6, i7, f, i, t1, t2, s1, s2, i8, hfi, hgo, o6, o7, hok⟩
  obtain ⟨lt2, ls1, ls2, t12, hi1⟩ := lens i t1 t2 s1 s2 (by omega) hok
  have st := step i t1 t2 s1 s2 hok
  cases f with
  | zero => simp only [nRow] at hgo; cases hgo
  | succ f =>
    obtain ⟨V1, V2, pr, by1, sm, mo⟩ := rnd i t1 t2 s1 s2 hi1 (by omega) h12 t12 (by omega) (by omega) (by omega) (by omega)
    obtain ⟨lu2, lz1, lz2, -, -⟩ := lens (i + 1) _ _ _ _ (by omega) st
    rw [nRow] at hgo
    generalize (if i % 2 = 1 then s1 - (cdv (cdv (t2 * Y2) (2 ^ w)) i : Nat) else s1 + (t1 * Y1 / 2 ^ w / i : Nat)) = z1 at *
    generalize (if i % 2 = 1 then s2 - (t1 * Y1 / 2 ^ w / i : Nat) else s2 + (cdv (cdv (t2 * Y2) (2 ^ w)) i : Nat)) = z2 at *
    generalize t1 * Y1 / 2 ^ w / i = u1 at *
    generalize cdv (cdv (t2 * Y2) (2 ^ w)) i = u2 at *
    have cc := ref4_CmpN (a := u2) (b := 2) (by omega) (by omega)
    have ec : decide (cmpZ ((u2 : Nat) : Int) ((2 : Nat) : Int) ≤ 0) = decide (u2 ≤ 2) := by rw [cmpZ_le]; exact decide_eq_decide.2 (by omega)
    generalize cmpZ ((u2 : Nat) : Int) ((2 : Nat) : Int) = cz at *
    have wd := ref4_Wide (a := z1) (b := z2) (by omega) (by omega) 4 (by omega)
    clear lens step rnd hr
    by_cases hu : u2 ≤ 2
    · rw [decide_eq_true hu] at ec
      rw [if_pos hu] at hgo
      simp only [Option.some.injEq, Prod.mk.injEq] at hgo
      rw [hgo.1, hgo.2, ivN_eq] at wd
      clear hgo st
      generalize sgL (i + 1) u1 u2 = T1 at *
      generalize sgH (i + 1) u1 u2 = T2 at *
      repeat (first | (simp only [go_sem, Nat.reduceEqDiff, Nat.reduceAdd, Nat.reduceSub, Nat.reduceMul, Nat.reduceLeDiff, Nat.reduceLT, reduceIte, reduceCtorEq, Nat.succ_ne_zero, elemsC, Int.reduceToNat, Nat.reducePow, i1', i2, o2, i4, o4, i6, i7, i8, o6, o7, ec]) | (simp (disch := (first | omega | (simp only [AL, List.length_map]; omega))) only [AR, AL, ifT, ifF, take_all, List.length_cons, List.length_nil, Int.reduceToNat, Int.reducePow, Nat.reducePow, i1', i2, o2, i4, o4, i6, i7, i8, o6, o7, ec]) | (refine wk_intro (by kernel_rfl) ?_) | (refine vp_draw (id := 2) (l := []) (by kernel_rfl) ?_) | (refine vf_of (by first | exact pr | exact by1 | exact sm | exact mo | exact w2 | exact cc | exact wd) ?_))
    · rw [decide_eq_false hu] at ec
      rw [if_neg hu] at hgo
      have fin : ∀ T1 T2 : Int, T1 = sgL (i + 1) u1 u2 → T2 = sgH (i + 1) u1 u2 → (∃ f' i' t1 t2 : Nat, ∃ s1 s2 : Int, TV.sv (.int .i64 ((i + 1 : Nat) : Int)) = .sv (.int .i64 (i' : Int)) ∧ f' + i' = w / 2 + 4 ∧ nRow w Y1 Y2 f' i' t1 t2 s1 s2 = some ((A : Int), (B : Int)) ∧ [SV.bool (decide (z1 < 0)), natV (lim z1.natAbs), .bool (decide (z2 < 0)), natV (lim z2.natAbs)] = [.bool (decide (s1 < 0)), natV (lim s1.natAbs), .bool (decide (s2 < 0)), natV (lim s2.natAbs)] ∧ [SV.bool (decide (T1 < 0)), natV (lim T1.natAbs), .bool (decide (T2 < 0)), natV (lim T2.natAbs)] = [.bool (decide (sgL i' t1 t2 < 0)), natV (lim (sgL i' t1 t2).natAbs), .bool (decide (sgH i' t1 t2 < 0)), natV (lim (sgH i' t1 t2).natAbs)] ∧ nInv w i' t1 t2 s1 s2) := by
        rintro T1 T2 rfl rfl
        exact ⟨f, i + 1, u1, u2, z1, z2, rfl, by omega, hgo, rfl, rfl, st⟩
      have fin2 := fin _ _ rfl rfl
      clear fin hgo st
      generalize sgL (i + 1) u1 u2 = T1 at *
      generalize sgH (i + 1) u1 u2 = T2 at *
      repeat (first | (simp only [go_sem, Nat.reduceEqDiff, Nat.reduceAdd, Nat.reduceSub, Nat.reduceMul, Nat.reduceLeDiff, Nat.reduceLT, reduceIte, reduceCtorEq, Nat.succ_ne_zero, elemsC, Int.reduceToNat, Nat.reducePow, i1', i2, o2, i4, o4, i6, i7, i8, o6, o7, ec]) | (simp (disch := (first | omega | (simp only [AL, List.length_map]; omega))) only [AR, AL, ifT, ifF, take_all, List.length_cons, List.length_nil, Int.reduceToNat, Int.reducePow, Nat.reducePow, i1', i2, o2, i4, o4, i6, i7, i8, o6, o7, ec]) | (refine wk_intro (by kernel_rfl) ?_) | (refine vp_draw (id := 2) (l := []) (by kernel_rfl) ?_) | (refine vf_of (by first | exact pr | exact by1 | exact sm | exact mo | exact w2 | exact cc) ?_))
      exact ⟨fin2, by omega⟩
theorem neg_numE (y : Rat) (h : 0 ≤ y) : (-y).num = -((y.num.natAbs : Nat) : Int) := by rw [Rat.neg_num, num_abs h]
theorem ref4_NumNeg {v : SV} {y : Rat} {L : Nat} (hv : RatA v (-y) L) (hL1 : 1 ≤ L) (hL : L ≤ 100000) (hw : w ≤ 4096) (h0 : 0 ≤ y) : Go.Ev.Fn CX 98 [v, .int .i64 (w : Int)] (ivV (-((upN y w : Nat) : Int)) (-((unN y w : Nat) : Int))) := by
  have h := ref4_Num hv hL1 hL hw
  rw [neg_numE y h0, Rat.neg_den, Int.neg_mul, ← Int.natCast_mul, divZ_neg y.den_pos, cdZ_neg] at h
  exact h
theorem sq_one : Enc w (2 ^ w) (2 ^ w) 1 := ⟨by rw [Rat.one_mul]; exact Rat.le_refl, by rw [Rat.one_mul]; exact Rat.le_refl⟩
set_option maxHeartbeats 1000000 in
theorem ref6_IvX {v : SV} {x : Rat} {L : Nat} (hv : RatA v x L) (hL1 : 1 ≤ L) (hL : L ≤ 50) (h0 : x ≤ 0) (h64 : -64 ≤ x) (hw : w ≤ 600) :
    ∃ A B : Nat, A ≤ B ∧ B ≤ 2 ^ (w + 130 + 256) ∧ Go.Ev.Fn CX 88 [v, .int .i64 (w : Int)] (ivN A B) ∧ (∃ s, ∀ L, s ≤ L → Enc w A B (evX x L)) ∧
      ∃ A0 B0 : Nat, nRow (w + 130) (unN (-x * (1 / 256)) (w + 130)) (upN (-x * (1 / 256)) (w + 130)) ((w + 130) / 2 + 3) 1 (2 ^ (w + 130)) (2 ^ (w + 130)) (2 ^ (w + 130) : Nat) (2 ^ (w + 130) : Nat) = some ((A0 : Int), (B0 : Int)) ∧ A = (sqn (w + 130) 8 A0 B0).1 / 2 ^ 130 ∧ B = cdv (sqn (w + 130) 8 A0 B0).2 (2 ^ 130) := by
  obtain ⟨W, hW, hw1, hw2, hwi⟩ : ∃ W : Nat, (∀ Q : Nat → Prop, Q W → Q (w + 130)) ∧ 130 ≤ W ∧ W ≤ 730 ∧ (w : Int) + 130 = (W : Int) := ⟨w + 130, fun Q h => h, by omega, by omega, rfl⟩
  obtain ⟨y, hy⟩ : ∃ y : Rat, y = -x * (1 / 256) := ⟨_, rfl⟩
  have h256 : (1 / 256 : Rat) * 256 = 1 := by decide +kernel
  have y256 : ((256 : Nat) : Rat) * y = -x := by rw [hy, show ((256 : Nat) : Rat) = 256 from rfl]; grind
  have y0 : 0 ≤ y := by rw [hy]; exact Rat.mul_nonneg (by grind) (by decide +kernel)
  have y4 : y * ((4 : Nat) : Rat) ≤ ((1 : Nat) : Rat) := by
    rw [show ((4 : Nat) : Rat) = 4 from rfl, show ((1 : Nat) : Rat) = 1 from rfl]
    rw [show ((256 : Nat) : Rat) = 256 from rfl] at y256
    grind
  have yh : (y + y) + (y + y) ≤ 1 := by
    rw [show ((4 : Nat) : Rat) = 4 from rfl, show ((1 : Nat) : Rat) = 1 from rfl] at y4
    grind
  have xy : x * mkRat 1 (2 ^ 8) = -y := by
    rw [show mkRat 1 (2 ^ 8) = (1 / 256 : Rat) by decide +kernel, hy]; grind
  have zx := szR_of hv hL1
  have z8 : szR (mkRat 1 (2 ^ 8)) 1 := ⟨lim_len_lt (by decide +kernel), lim_len_lt (by decide +kernel)⟩
  have zq := szR_mul zx z8 hL1
  have mu := ref2_Mul hv (RatA_rv z8) hL1 (by omega) (by omega)
  rw [xy] at mu zq
  have nm := ref4_NumNeg (w := W) (RatA_rv zq) (by omega) (by omega) (by omega) y0
  have sh := ref1_shl (N := 1) (m := 8) (by rw [lim_one]; simp) (by omega)
  rw [Nat.one_mul, lim_one] at sh
  have l := lim_len_shl (a := 1) (n := 8)
  have l1 := lim_len1
  rw [Nat.one_mul] at l
  have of := ref2_OfL (s := false) (n := 1) (d := 2 ^ 8) (by omega) (by omega)
  rw [lim_one, show sgn false 1 = 1 from rfl] at of
  have hY : 4 * upN y W ≤ 2 ^ W := by
    have e : 2 ^ W = 2 ^ (W - 2) * 4 := by rw [show (4 : Nat) = 2 ^ 2 from rfl, ← Nat.pow_add]; congr 1; omega
    have := upN_le (w := W) (c := 2 ^ (W - 2)) y0 y4 (by omega) (by omega)
    omega
  obtain ⟨A0, B0, a1, a2, a3, hr, fr⟩ := ref6_row (w := W) (by omega) (by omega) hY (un_up W)
  have E1 : Ex.E (-y) 1 = 1 := by show (0 : Rat) + 1 = 1; decide +kernel
  obtain ⟨s1, hs⟩ := nRow_enc (num_enc y0 W) yh _ 0 _ _ _ _ _ _ hr sq_one (by rw [E1]; exact sq_one)
  have en : ∀ L, s1 ≤ L → Enc W A0 B0 (1 / Ex.E y L) := fun L hL => hs L hL
  have en8 := fun L hL => sqn_enc (w := W) 8 A0 B0 _ (en L hL)
  obtain ⟨s2, hs2⟩ := inv_far (x := -x) (j := 2 ^ 8) (by omega) y0 (by rw [show (2 : Nat) ^ 8 = 256 from rfl]; exact y256) en8
  have st : ∀ (k lo hi c : Nat), lo ≤ hi → hi ≤ 2 ^ (W + c) → c ≤ 128 → (Go.Ev.Fn CX 109 [ivN lo hi, ivN lo hi, .int .i64 (W : Int)] (ivN (lo * lo / 2 ^ W) (cdv (hi * hi) (2 ^ W)))) ∧ lo * lo / 2 ^ W ≤ cdv (hi * hi) (2 ^ W) ∧ cdv (hi * hi) (2 ^ W) ≤ 2 ^ (W + (c + c)) := by
    intro k lo hi c q1 q2 q3
    obtain ⟨m1, m2⟩ := sqn_step q1 q2
    have lh := lim_len_p2 q2 (by omega)
    exact ⟨ref4_ProdN q1 q1 (by omega) (by omega) (by omega) (by omega), m1, m2⟩
  have fin : ∀ (k lo hi c : Nat), lo ≤ hi → hi ≤ 2 ^ (W + c) → c * 2 ^ k ≤ 256 → (sqn W k lo hi).1 ≤ (sqn W k lo hi).2 ∧ (sqn W k lo hi).2 ≤ 2 ^ (W + 256) := by
    intro k
    induction k with
    | zero => intro lo hi c q1 q2 q3; exact ⟨q1, Nat.le_trans q2 (Nat.pow_le_pow_right (by omega) (by omega))⟩
    | succ k ih =>
      intro lo hi c q1 q2 q3
      obtain ⟨m1, m2⟩ := sqn_step q1 q2
      refine ih _ _ (c + c) m1 m2 ?_
      rw [Nat.pow_succ, ← Nat.mul_two] at *
      rw [Nat.mul_assoc, Nat.mul_comm 2]; exact q3
  obtain ⟨R1, R2, hR⟩ : ∃ R1 R2 : Nat, sqn W 8 A0 B0 = (R1, R2) := ⟨_, _, rfl⟩
  obtain ⟨f1, f2⟩ := fin 8 A0 B0 1 a2 a3 (by omega)
  rw [hR] at f1 f2 hs2
  simp only at f1 f2 hs2
  have lR2 := lim_len_p2 f2 (by omega)
  have lR1 := lim_len_mono f1
  have bk := ref4_BackN (a := R1) (b := R2) (n := 130) (by omega) (by omega) (by omega) (by omega)
  have o12 := div_le_cdv (d := 2 ^ 130) (Nat.two_pow_pos 130) f1
  have f2' : R2 ≤ 2 ^ (w + 130 + 256) := hW (fun W => R2 ≤ 2 ^ (W + 256)) f2
  refine ⟨R1 / 2 ^ 130, cdv R2 (2 ^ 130), o12, Nat.le_trans (cdv_self R2 (Nat.two_pow_pos 130)) f2', ?_, ⟨s2 + 1, fun L hL => ?_⟩, ?_⟩
  rotate_left
  · have e : evX x L = 1 / Ex.E (-x) L := by
      unfold evX
      by_cases g : x < 0
      · rw [if_pos g]
      · rw [if_neg g]
        have x0 : x = 0 := Rat.le_antisymm h0 (Rat.not_lt.1 g)
        subst x0
        obtain ⟨k, rfl⟩ : ∃ k, L = k + 1 := ⟨L - 1, by omega⟩
        rw [Rat.neg_zero, Ex.E_zero]; decide +kernel
    rw [e]
    exact enc_backN (w := w) (n := 130) (hW (fun W => Enc W R1 R2 (1 / Ex.E (-x) L)) (hs2 L (by omega)))
  · have := hW (fun W => nRow W (unN (-x * (1 / 256)) W) (upN (-x * (1 / 256)) W) (W / 2 + 3) 1 (2 ^ W) (2 ^ W) (2 ^ W : Nat) (2 ^ W : Nat) = some ((A0 : Int), (B0 : Int)) ∧ sqn W 8 A0 B0 = (R1, R2)) ⟨by rw [← hy]; exact hr, hR⟩
    exact ⟨A0, B0, this.1, by rw [this.2], by rw [this.2]⟩
  · clear en en8 hs hs2 hr fin f2' o12
    obtain ⟨s0, n0, d0, rfl, -⟩ := hv
    generalize hyn1 : -((upN y W : Nat) : Int) = yn1 at *
    generalize hyn2 : -((unN y W : Nat) : Int) = yn2 at *
    generalize R1 / 2 ^ 130 = O1 at *
    generalize cdv R2 (2 ^ 130) = O2 at *
    generalize mkRat 1 (2 ^ 8) = q8 at *
    generalize 2 ^ 8 = P8 at *
    generalize -y = my at *
    refine Go.Ev.Fn.intro (fn := Tryz.f88) (body := (Tryz.f88).body.get!) (by kernel_rfl) (by kernel_rfl) (by kernel_rfl) (fun _ => rfl) (Nat.le_of_ble_eq_true (by kernel_rfl)) ?_; unfold Tryz.f88; simp only [Option.get!_some]
    repeat (first | (simp only [go_sem, Nat.reduceEqDiff, Nat.reduceAdd, Nat.reduceSub, Nat.reduceMul, Nat.reduceLeDiff, Nat.reduceLT, reduceIte, reduceCtorEq, Nat.succ_ne_zero, elemsC, Int.reduceToNat, Nat.reducePow, hwi]) | (simp (disch := (first | omega | (simp only [AL, List.length_map]; omega))) only [AR, AL, ifT, ifF, take_all, List.length_cons, List.length_nil, Int.reduceToNat, Int.reducePow, Nat.reducePow, hwi]) | (refine wk_intro (by kernel_rfl) ?_) | (refine vp_draw (id := 3) (l := [12, 11, 14]) (by kernel_rfl) ?_) | (refine vf_of (by first | exact sh | exact of | exact mu | exact nm | exact fr) ?_))
    refine vp_loop_inv (fun s => s.tmp 1 = .sv (.int .i64 (w : Int)) ∧ s.tmp 4 = .ptr 4 0 0 ∧ s.obj 4 0 = some [.bool false, .sl 0 [], .bool false, .sl 0 []] ∧ s.tmp 5 = .sv (.int .i64 130) ∧ s.tmp 6 = .sv (.int .i64 8) ∧ s.tmp 8 = .ptr 8 0 0 ∧
        ∃ k lo hi c : Nat, s.tmp 9 = .sv (.int .i64 ((8 - k : Nat) : Int)) ∧ k ≤ 8 ∧ s.obj 8 0 = some [.bool false, natV (lim lo), .bool false, natV (lim hi)] ∧ sqn W k lo hi = (R1, R2) ∧ lo ≤ hi ∧ hi ≤ 2 ^ (W + c) ∧ c * 2 ^ k ≤ 256)
      (fun s => match s.tmp 9 with | .sv (.int _ i) => 9 - i.toNat | _ => 0) ⟨rfl, rfl, rfl, rfl, rfl, rfl, 8, A0, B0, 1, rfl, by omega, rfl, hR, a2, a3, by omega⟩ ?_
    rintro s ⟨i1, i4, o4, i5, i6, i8, k, lo, hi, c, i9, hk, o8, hsq, g1, g2, g3⟩
    cases k with
    | zero =>
      have hsq' : (lo, hi) = (R1, R2) := hsq
      simp only [Prod.mk.injEq] at hsq'
      obtain ⟨rfl, rfl⟩ := hsq'
      repeat (first | (simp only [go_sem, Nat.reduceEqDiff, Nat.reduceAdd, Nat.reduceSub, Nat.reduceMul, Nat.reduceLeDiff, Nat.reduceLT, reduceIte, reduceCtorEq, Nat.succ_ne_zero, elemsC, Int.reduceToNat, Nat.reducePow, i1, i4, o4, i5, i6, i8, i9, o8, hwi]) | (simp (disch := (first | omega | (simp only [AL, List.length_map]; omega))) only [AR, AL, ifT, ifF, take_all, List.length_cons, List.length_nil, Int.reduceToNat, Int.reducePow, Nat.reducePow, i1, i4, o4, i5, i6, i8, i9, o8, hwi]) | (refine wk_intro (by kernel_rfl) ?_) | (refine vp_draw (id := 3) (l := [12, 11, 14]) (by kernel_rfl) ?_) | (refine vf_of (by first | exact bk) ?_))
    | succ k =>
      have c128 : c ≤ 128 := by
        rw [Nat.pow_succ, ← Nat.mul_assoc] at g3
        have := Nat.le_mul_of_pos_right c (show 0 < 2 ^ k from Nat.pow_pos (by omega))
        omega
      obtain ⟨mu2, m1, m2⟩ := st k lo hi c g1 g2 c128
      have hsq' : sqn W k (lo * lo / 2 ^ W) (cdv (hi * hi) (2 ^ W)) = (R1, R2) := hsq
      clear hsq st
      generalize lo * lo / 2 ^ W = lo' at *
      generalize cdv (hi * hi) (2 ^ W) = hi' at *
      have g3' : (c + c) * 2 ^ k ≤ 256 := by
        rw [Nat.pow_succ, Nat.mul_comm _ 2, ← Nat.mul_assoc, Nat.mul_two] at g3; exact g3
      repeat (first | (simp only [go_sem, Nat.reduceEqDiff, Nat.reduceAdd, Nat.reduceSub, Nat.reduceMul, Nat.reduceLeDiff, Nat.reduceLT, reduceIte, reduceCtorEq, Nat.succ_ne_zero, elemsC, Int.reduceToNat, Nat.reducePow, i1, i4, o4, i5, i6, i8, i9, o8, hwi]) | (simp (disch := (first | omega | (simp only [AL, List.length_map]; omega))) only [AR, AL, ifT, ifF, take_all, List.length_cons, List.length_nil, Int.reduceToNat, Int.reducePow, Nat.reducePow, i1, i4, o4, i5, i6, i8, i9, o8, hwi]) | (refine wk_intro (by kernel_rfl) ?_) | (refine vp_draw (id := 3) (l := [12, 11, 14]) (by kernel_rfl) ?_) | (refine vf_of (by first | exact mu2) ?_))
      exact ⟨⟨k, lo', hi', c + c, by congr 2; omega, by omega, rfl, hsq', m1, m2, g3'⟩, by omega⟩
theorem ref6_Iv {v : SV} {x : Rat} {L : Nat} (hv : RatA v x L) (hL1 : 1 ≤ L) (hL : L ≤ 50) (h0 : x ≤ 0) (h64 : -64 ≤ x) (hw : w ≤ 600) :
    ∃ A B : Nat, A ≤ B ∧ B ≤ 2 ^ (w + 130 + 256) ∧ Go.Ev.Fn CX 88 [v, .int .i64 (w : Int)] (ivN A B) ∧ ∃ s, ∀ L, s ≤ L → Enc w A B (evX x L) := by
  obtain ⟨A, B, a, b, c, d, -⟩ := ref6_IvX hv hL1 hL h0 h64 hw
  exact ⟨A, B, a, b, c, d⟩
end
end Go.Proofs.YtemnjalaincijaaGreat
namespace Go.Proofs.YtemnjalaincijaaGreat
open Go.Ev
theorem by_ok {N D w : Nat} (hD : 0 < D) (hN : N ≤ 64 * D) (hw : 8 ≤ w) : N * 2 ^ w / D * 2 / 1 ≤ (N * 2 ^ w / D + 1) * 2 / 1 + 1 ∧ (N * 2 ^ w / D + 1) * 2 / 1 + 1 ≤ N * 2 ^ w / D * 2 / 1 + 41 ∧ (N * 2 ^ w / D + 1) * 2 / 1 + 1 ≤ 129 * 2 ^ w ∧ N * 2 ^ w / D ≤ 2 ^ w * 64 ∧
    ∀ x : Rat, x * (D : Rat) = (N : Rat) → Enc w (N * 2 ^ w / D * 2 / 1) ((N * 2 ^ w / D + 1) * 2 / 1 + 1) (x * 2) := by
  have P : 2 ^ 8 ≤ 2 ^ w := Nat.pow_le_pow_right (by omega) hw
  have Tle : N * 2 ^ w / D ≤ 2 ^ w * 64 := by
    refine (Nat.div_le_iff_le_mul hD).2 ?_
    have m := Nat.mul_le_mul_right (2 ^ w) hN
    have e : 64 * D * 2 ^ w = 2 ^ w * 64 * D := by rw [Nat.mul_comm, ← Nat.mul_assoc]
    omega
  refine ⟨by omega, by omega, by omega, Tle, fun x hx => ?_⟩
  have f := floor_le (a := N * 2 ^ w) (d := D)
  have g := le_floor (a := N * 2 ^ w) (d := D) hD
  have dR : (0 : Rat) < (D : Rat) := by exact_mod_cast hD
  have k : ((N * 2 ^ w : Nat) : Rat) = x * p2 w * (D : Rat) := by
    have : ((N * 2 ^ w : Nat) : Rat) = (N : Rat) * p2 w := by exact_mod_cast rfl
    rw [this, ← hx]; grind
  rw [k] at f g
  have e := enc_times (n := 2) (d := 1) (by omega) (show Enc w (N * 2 ^ w / D) (N * 2 ^ w / D + 1) x from ⟨le_by dR f, le_by dR g⟩)
  have e2 : x * ((2 : Nat) : Rat) / ((1 : Nat) : Rat) = x * 2 := by
    rw [show ((2 : Nat) : Rat) = 2 from rfl, show ((1 : Nat) : Rat) = 1 from rfl]
    generalize x * 2 = z
    have := Rat.div_mul_cancel (a := z) (b := 1) (by decide)
    rw [Rat.mul_one] at this; exact this
  rw [e2] at e; exact e
theorem nn_of {N D : Nat} {x : Rat} (hD : 0 < D) (h : x * (D : Rat) = (N : Rat)) : 0 ≤ x := by
  have dR : (0 : Rat) < (D : Rat) := by exact_mod_cast hD
  refine le_by dR ?_
  rw [Rat.zero_mul, h]; exact nat_nonneg N
theorem le_of64 {N D : Nat} {x : Rat} (hD : 0 < D) (h : x * (D : Rat) = (N : Rat)) (hN : N ≤ 64 * D) : x ≤ 64 := by
  have dR : (0 : Rat) < (D : Rat) := by exact_mod_cast hD
  refine le_by dR ?_
  rw [h]
  have := Ex.castle hN
  rw [Ex.castmul] at this; exact this
theorem one_encE (w : Nat) : Enc w (2 ^ w) (2 ^ w + 1) 1 := by
  refine ⟨by rw [Rat.one_mul]; exact Rat.le_refl, ?_⟩
  rw [Rat.one_mul]
  exact_mod_cast Nat.le_succ (2 ^ w)
section
variable {N D w n : Nat}
theorem incg_row (hn : 1 ≤ n) (hn2 : n ≤ 30) (hD : 0 < D) (hN : N ≤ 64 * D) (lN : (lim N).length ≤ 100) (lD : (lim D).length ≤ 100) (hw0 : 80 ≤ w) (hw : w ≤ 1000) :
    ∃ A B : Nat, (∀ s : Bool, Go.Ev.Fn CX 62 [.int .i64 (n : Int), ratV s (lim N) (lim D), .int .i64 (w : Int)] (spanV A B)) ∧ A ≤ B ∧ B < 2 ^ (w + 10014) ∧ B ≤ ((igR n).1 + 1) * 2 ^ w ∧ B ≤ A + ((igR n).2 + 8) ∧
      ∀ x : Rat, x * (D : Rat) = (N : Rat) → ∃ s0, ∀ L, s0 ≤ L → Enc w A B (1 * sk (x * 2) (n + 2) L) := by
  have fr := fun s => fix_RatS (s := s) (n := N) (d := D) (w := w) hD (by omega) (by omega) (by omega)
  have P : 2 ^ 8 ≤ 2 ^ w := Nat.pow_le_pow_right (by omega) (by omega)
  obtain ⟨b1, b2, b3, b4, b5⟩ := by_ok (w := w) hD hN (by omega)
  generalize N * 2 ^ w / D = T at *
  have e9 : 2 ^ (w + 9) = 2 ^ w * 512 := Nat.pow_add _ _ _
  have e8 : 2 ^ (w + 8) = 2 ^ w * 256 := Nat.pow_add _ _ _
  have e10 : 2 ^ (w + 10) = 2 ^ w * 1024 := Nat.pow_add _ _ _
  have lT := lim_len_pw (n := T) (w := w + 9) (by omega)
  have lT1 := lim_len_pw (n := T + 1) (w := w + 9) (by omega)
  have o2 := nat_Of 2 (by omega)
  have o1 := fix_One
  have l1 := lim_len1
  have l2 : (lim 2).length ≤ 1 := lim_len_one (by decide)
  have ti := fix_Times (a := T) (b := T + 1) (n := 2) (d := 1) (by omega) (by omega) (by omega) (by omega) (by omega)
  have un := fix_Unit (w := w) (by omega)
  generalize T * 2 / 1 = Q1 at *
  generalize (T + 1) * 2 / 1 + 1 = Q2 at *
  have lQ1 := lim_len_pw (n := Q1) (w := w + 9) (by omega)
  have lQ2 := lim_len_pw (n := Q2) (w := w + 9) (by omega)
  have i0 := tInv_0 (w := w) (k0 := n + 2) (t1 := 2 ^ w) (t2 := 2 ^ w + 1) (a1 := 2 ^ w) (a2 := 2 ^ w + 1) (by omega) (by omega) (by omega) (by omega)
  obtain ⟨F, hF⟩ : ∃ F : Nat, F = 5200 := ⟨_, rfl⟩
  obtain ⟨A, B, hr, hAB, hB⟩ := tRow_end (w := w) (Y1 := Q1) (Y2 := Q2) (M := 0) (k0 := n + 2) (by omega) b1 (by omega) (by omega) (by omega) 1023 F 0 (n + 2) _ _ _ _ i0 (by omega) (by omega) (by omega)
  obtain ⟨-, w1, w2⟩ := tRow_wide (W := 129) (D := 41) b3 b1 b2 F F (n + 2) _ _ _ _ 2 1 2 1 A B (Nat.le_refl _) (by omega) hr (by omega) (by omega) (by omega) (by omega) (by omega) (by omega)
  obtain ⟨-, w3, w4⟩ := ig_at hn hn2
  rw [hF] at w1 w2
  generalize wRow 129 41 5200 (n + 2) 2 1 2 1 = wr at *
  have w5 := Nat.mul_le_mul_right (2 ^ w) w3
  refine ⟨A, B, fun s => ?_, hAB, hB, ?_, by omega, fun x hx => ?_⟩
  rotate_left
  · rw [Nat.add_mul, Nat.one_mul]; omega
  · have en := b5 x hx
    have x0 := nn_of hD hx
    have x64 := le_of64 hD hx hN
    exact tRow_enc (c := 1) (k0 := n + 2) (by omega) en (by decide) (fun i _ g => tk_late (w := w) (by omega) (by omega) (enc_nonneg en) (le_128 x64) (by omega) (by rw [Rat.one_mul] at g; exact g)) F 0 _ _ _ _ A B hr (by
      show Enc w _ _ (1 * 1); rw [Rat.one_mul]; exact one_encE w) (by show Enc w _ _ (1 * (0 + 1)); rw [Rat.zero_add, Rat.one_mul]; exact one_encE w)
  have lens := fun (i k t1 t2 a1 a2 : Nat) (hi : i ≤ F) (h : tInv w (n + 2) i k t1 t2 a1 a2) => (show (lim t1).length ≤ 1000 ∧ (lim t2).length ≤ 1000 ∧ (lim a1).length ≤ 1000 ∧ (lim a2).length ≤ 1000 from by
    obtain ⟨h1, h2, h3, h4, h5⟩ := h
    have a := lim_len_pw h4
    have b := lim_len_mono h2
    have up : (i + 2) * 2 ^ (w + 10000) ≤ 2 ^ (w + 10014) := by
      have e : 2 ^ (w + 10014) = 16384 * 2 ^ (w + 10000) := by rw [show w + 10014 = 14 + (w + 10000) by omega, Nat.pow_add 2 14]
      rw [e]; exact Nat.mul_le_mul_right _ (by omega)
    have c := lim_len_pw (n := a2) (w := w + 10014) (by omega)
    have d := lim_len_mono h3
    exact ⟨by omega, by omega, by omega, by omega⟩)
  have step := fun (i k t1 t2 a1 a2 : Nat) (h : tInv w (n + 2) i k t1 t2 a1 a2) => tInv_step (Y1 := Q1) (Y2 := Q2) (by omega) b1 (by omega) h
  have frs := fr s
  obtain ⟨W1, hW1⟩ : ∃ W1 : Nat, W1 = 2 ^ w := ⟨_, rfl⟩
  rw [← hW1] at un i0 hr
  clear fr b2 b3 b4 b5 e8 e9 e10 hB hAB w1 w2 w3 w4 w5 P
  refine Go.Ev.Fn.intro (fn := Tryz.f62) (body := (Tryz.f62).body.get!) (by kernel_rfl) (by kernel_rfl) (by kernel_rfl) (fun _ => rfl) (Nat.le_of_ble_eq_true (by kernel_rfl)) ?_; unfold Tryz.f62; simp only [Option.get!_some]
  repeat (first | (simp only [go_sem, Nat.reduceEqDiff, Nat.reduceAdd, Nat.reduceSub, Nat.reduceMul, Nat.reduceLeDiff, Nat.reduceLT, reduceIte, reduceCtorEq, Nat.succ_ne_zero, elemsC, Int.reduceToNat, Nat.reducePow]) | (simp (disch := (first | omega | (simp only [AL, List.length_map]; omega))) only [AR, AL, ifT, ifF, take_all, List.length_cons, List.length_nil, Int.reduceToNat, Int.reducePow, Nat.reducePow]) | (refine wk_intro (by kernel_rfl) ?_) | (refine vf_of (by first | exact frs | exact o2 | exact o1 | exact ti | exact un) ?_))
  refine vp_loop_inv (fun s' => s'.tmp 2 = .sv (.int .i64 (w : Int)) ∧ s'.tmp 6 = .ptr 6 0 0 ∧ s'.obj 6 0 = some [.sl 0 [], .sl 0 []] ∧ s'.tmp 7 = .ptr 7 0 0 ∧ s'.obj 7 0 = some [natV (lim Q1), natV (lim Q2)] ∧ s'.tmp 8 = .ptr 8 0 0 ∧ s'.tmp 9 = .ptr 9 0 0 ∧
      ∃ f i k t1 t2 a1 a2 : Nat, s'.tmp 10 = .sv (.int .i64 (k : Int)) ∧ f + i = F ∧ tRow w Q1 Q2 0 f k t1 t2 a1 a2 = some (A, B) ∧ s'.obj 9 0 = some [natV (lim t1), natV (lim t2)] ∧ s'.obj 8 0 = some [natV (lim a1), natV (lim a2)] ∧ tInv w (n + 2) i k t1 t2 a1 a2)
    (fun s' => match s'.tmp 10 with | .sv (.int _ i) => 20000 - i.toNat | _ => 0) ⟨rfl, rfl, rfl, rfl, rfl, rfl, rfl, F, 0, n + 2, W1, W1 + 1, W1, W1 + 1, rfl, by omega, hr, rfl, rfl, i0⟩ ?_
  rintro s' ⟨i2, i6, o6, i7, o7, i8, i9, f, i, k, t1, t2, a1, a2, i10, hfi, hgo, o9, o8, hok⟩
  obtain ⟨lt1, lt2, la1, la2⟩ := lens i k t1 t2 a1 a2 (by omega) hok
  have hk := hok.1
  have st := step i k t1 t2 a1 a2 hok
  have sm := fix_Small (a := t1) (b := t2) (by omega) (k := 2) (by omega)
  cases f with
  | zero => simp only [tRow] at hgo; cases hgo
  | succ f =>
    rw [tRow] at hgo
    by_cases hs : t2 < 4
    · rw [if_pos ⟨Nat.zero_le _, hs⟩] at hgo
      simp only [Option.some.injEq, Prod.mk.injEq] at hgo
      obtain ⟨rfl, rfl⟩ := hgo
      rw [decide_eq_true (show t2 < 2 ^ 2 from hs)] at sm
      have wd := fix_Wider (a := a1) (b := a2) (n := 8) (by omega) (by omega) (by omega)
      clear step lens st hr
      repeat (first | (simp only [go_sem, Nat.reduceEqDiff, Nat.reduceAdd, Nat.reduceSub, Nat.reduceMul, Nat.reduceLeDiff, Nat.reduceLT, reduceIte, reduceCtorEq, Nat.succ_ne_zero, elemsC, Int.reduceToNat, Nat.reducePow, i2, i6, o6, i7, o7, i8, i9, i10, o8, o9, Bool.not_true]) | (simp (disch := (first | omega | (simp only [AL, List.length_map]; omega))) only [AR, AL, ifT, ifF, take_all, List.length_cons, List.length_nil, Int.reduceToNat, Int.reducePow, Nat.reducePow, i2, i6, o6, i7, o7, i8, i9, i10, o8, o9, Bool.not_true]) | (refine wk_intro (by kernel_rfl) ?_) | (refine vf_of (by first | exact sm | exact wd) ?_))
    · rw [if_neg (fun h => hs h.2)] at hgo
      rw [decide_eq_false (show ¬ t2 < 2 ^ 2 from hs)] at sm
      obtain ⟨lu1, lu2, lb1, lb2⟩ := lens (i + 1) (k + 2) _ _ _ _ (by omega) st
      have mu := fix_Mul (a := t1) (b := t2) (c := Q1) (d := Q2) (w := w) (by omega) (by omega) (by omega) (by omega) (by omega) (by omega)
      have qk := nat_Of k (by omega)
      have lq : (lim k).length ≤ 2 := lim_len_lt (by omega)
      have z1 := lim_len_mul (a := t1) (b := Q1)
      have z2 := lim_len_mul (a := t2) (b := Q2)
      have z3 := lim_len_mono (Nat.div_le_self (t1 * Q1) (2 ^ w))
      have z4 := lim_len_add (a := t2 * Q2 / 2 ^ w) (b := 1) (L := 5000) (Nat.le_trans (lim_len_mono (Nat.div_le_self (t2 * Q2) (2 ^ w))) (by omega)) (by omega)
      have tk := fix_Times (a := t1 * Q1 / 2 ^ w) (b := t2 * Q2 / 2 ^ w + 1) (n := 1) (d := k) (by omega) (by omega) (by omega) (by omega) (by omega)
      generalize t1 * Q1 / 2 ^ w * 1 / k = u1 at *
      generalize (t2 * Q2 / 2 ^ w + 1) * 1 / k + 1 = u2 at *
      generalize t1 * Q1 / 2 ^ w = v1 at *
      generalize t2 * Q2 / 2 ^ w + 1 = v2 at *
      have ad := fix_Add (a := a1) (b := a2) (c := u1) (d := u2) (by omega) (by omega) (by omega) (by omega)
      clear step lens hr
      repeat (first | (simp only [go_sem, Nat.reduceEqDiff, Nat.reduceAdd, Nat.reduceSub, Nat.reduceMul, Nat.reduceLeDiff, Nat.reduceLT, reduceIte, reduceCtorEq, Nat.succ_ne_zero, elemsC, Int.reduceToNat, Nat.reducePow, i2, i6, o6, i7, o7, i8, i9, i10, o8, o9, Bool.not_false]) | (simp (disch := (first | omega | (simp only [AL, List.length_map]; omega))) only [AR, AL, ifT, ifF, take_all, List.length_cons, List.length_nil, Int.reduceToNat, Int.reducePow, Nat.reducePow, i2, i6, o6, i7, o7, i8, i9, i10, o8, o9, Bool.not_false]) | (refine wk_intro (by kernel_rfl) ?_) | (refine vf_of (by first | exact sm | exact mu | exact o1 | exact qk | exact tk | exact ad) ?_))
      exact ⟨⟨f, i + 1, k + 2, u1, u2, a1 + u1, a2 + u2, rfl, by omega, hgo, rfl, rfl, st⟩, by omega⟩
end
end Go.Proofs.YtemnjalaincijaaGreat
namespace Go.Proofs.YtemnjalaincijaaGreat
open Go.Ev
theorem ervP {x : Rat} (h : 0 ≤ x) : rv x = ratV false (lim x.num.natAbs) (lim x.den) := by
  show ratV (decide (x.num < 0)) _ _ = _
  rw [neg_numX, decide_eq_false (Rat.not_lt.2 h)]
theorem times2 (x : Rat) : x * ((2 : Nat) : Rat) / ((1 : Nat) : Rat) = x * 2 := by
  rw [show ((2 : Nat) : Rat) = 2 from rfl, show ((1 : Nat) : Rat) = 1 from rfl]
  generalize x * 2 = z
  have := Rat.div_mul_cancel (a := z) (b := 1) (by decide)
  rw [Rat.mul_one] at this; exact this
theorem SQ_one : (1 : Rat) ≤ SQ ∧ SQ ≤ 2 := by decide +kernel
theorem inv_ball {lo hi : Rat} {w g : Nat} (h1 : 1 ≤ lo) (h2 : lo ≤ hi) (h3 : (hi - lo) * p2 w ≤ (g : Rat)) (hg : g + 2 ≤ 2 ^ w) (hw : 1 ≤ w) :
    2 ^ (2 * w) / (unN hi w + 1) ≤ 2 ^ (2 * w) / unN lo w + 1 ∧ 2 ^ (2 * w) / unN lo w + 1 ≤ 2 * 2 ^ w ∧ 2 ^ (2 * w) / unN lo w + 1 ≤ 2 ^ (2 * w) / (unN hi w + 1) + (g + 4) ∧ 2 ^ w ≤ unN lo w ∧ unN hi w + 1 ≤ unN lo w + (g + 2) := by
  have P : 0 < 2 ^ w := Nat.pow_pos (by omega)
  have pp : 2 ^ (2 * w) = 2 ^ w * 2 ^ w := by rw [← Nat.pow_add]; congr 1; omega
  have u1 := unN_le (show 0 ≤ lo by grind) w
  have u2 := unN_le (show 0 ≤ hi by grind) w
  have W := p2_pos w
  have lo1 : 2 ^ w ≤ unN lo w := by
    have a : p2 w < ((unN lo w + 1 : Nat) : Rat) := by
      have := unN_lt (show 0 ≤ lo by grind) w
      have m := Rat.mul_le_mul_of_nonneg_right h1 (Rat.le_of_lt W)
      grind
    have a2 : 2 ^ w < unN lo w + 1 := by exact_mod_cast a
    omega
  have d : unN hi w + 1 ≤ unN lo w + (g + 2) := by
    have a : ((unN hi w : Nat) : Rat) < ((unN lo w + 1 + g : Nat) : Rat) := by
      have := unN_lt (show 0 ≤ lo by grind) w
      rw [Ex.castadd (unN lo w + 1) g]
      grind
    have a2 : unN hi w < unN lo w + 1 + g := by exact_mod_cast a
    omega
  have m := unN_mono (show 0 ≤ lo by grind) h2 w
  obtain ⟨i1, i2, i3⟩ := inv_gapE (M := 2 ^ (2 * w)) (lo := unN lo w) (hi := unN hi w + 1) (W := 2 ^ w) P pp lo1 (by omega) (by omega)
  exact ⟨by omega, by omega, by omega, lo1, d⟩
section
variable {N D w n : Nat}
theorem incg_roots {v : SV} {x : Rat} (hv : RatA v x 7) (h0 : 0 ≤ x) (h64 : x ≤ 64) (hw0 : 8 ≤ w) (hw : w < 233) :
    ∃ R1 R2 : Nat, ∃ lo hi : Rat, Go.Ev.Fn CX 126 [v, .int .i64 (w : Int)] (spanV R1 R2) ∧ R1 ≤ R2 ∧ R2 ≤ 21 * 2 ^ w ∧ R2 ≤ R1 + 100 ∧ 0 ≤ lo ∧ lo ≤ hi ∧ lo * lo ≤ x ∧ x ≤ hi * hi ∧ ∀ s, lo ≤ s → s ≤ hi → Enc w R1 R2 (s * (1 / SQ)) := by
  obtain ⟨lo, hi, fs, l0, lh, l1, l2, l3, y1, y2⟩ := root_Sqrt (p := w) hv h0 (by omega) (by omega) (by omega)
  obtain ⟨m1, m2, fp, h1, h2, h3, h4, z1, z2⟩ := many_pi hw0 hw
  obtain ⟨lo', hi', fr, r1, r2, r3, x1, x2⟩ := many_root hw h1 h2 h3 h4 z1 z2
  have P : 2 ^ 8 ≤ 2 ^ w := Nat.pow_le_pow_right (by omega) hw0
  have W := p2_pos w
  have W8 : ((256 : Nat) : Rat) ≤ p2 w := Ex.castle P
  rw [show ((256 : Nat) : Rat) = 256 from rfl] at W8
  obtain ⟨q1, q2⟩ := SQ_one
  have sq2 : (3 / 2 : Rat) ≤ SQ := by decide +kernel
  have lo1 : 1 ≤ lo' := by
    refine Rat.not_lt.1 fun g => ?_
    have := Rat.mul_le_mul_of_nonneg_left W8 (show 0 ≤ hi' - lo' by grind)
    have h32 : (3 / 2 : Rat) * 2 = 3 := by decide +kernel
    grind
  have lh' : lo' ≤ hi' := by grind
  obtain ⟨i1, i2, i3, i4, i5⟩ := inv_ball (w := w) (g := 3) lo1 lh' r3 (by omega) (by omega)
  have hlo : lo ≤ 8 := by
    refine Rat.not_lt.1 fun g => ?_
    have a := Rat.mul_le_mul_of_nonneg_right (Rat.le_of_lt g) l0
    grind
  have hhi : hi ≤ 9 := by
    refine Rat.not_lt.1 fun g => ?_
    have := Rat.mul_le_mul_of_nonneg_left W8 (show 0 ≤ hi - lo by grind)
    grind
  have uh : unN hi w + 1 ≤ 9 * 2 ^ w + 1 := by
    have u := (unN_le (show 0 ≤ hi by grind) w).1
    have m := Rat.mul_le_mul_of_nonneg_right hhi (Rat.le_of_lt W)
    have t : ((unN hi w : Nat) : Rat) ≤ ((9 * 2 ^ w : Nat) : Rat) := by
      rw [Ex.castmul]; exact Rat.le_trans u m
    have : unN hi w ≤ 9 * 2 ^ w := by exact_mod_cast t
    omega
  have ul : unN hi w + 1 ≤ unN lo w + 3 := by
    have a : ((unN hi w : Nat) : Rat) < ((unN lo w + 1 + 1 : Nat) : Rat) := by
      have b := unN_lt (show 0 ≤ lo by grind) w
      have c := (unN_le (show 0 ≤ hi by grind) w).1
      rw [Ex.castadd (unN lo w + 1) 1, show ((1 : Nat) : Rat) = 1 from rfl]
      grind
    have a2 : unN hi w < unN lo w + 1 + 1 := by exact_mod_cast a
    omega
  have um : unN lo w ≤ unN hi w + 1 := Nat.le_succ_of_le (unN_mono l0 lh w)
  have b1 := fix_Ball (w := w) (szR_mono y1 (show _ ≤ 200 by omega)) (szR_mono y2 (show _ ≤ 200 by omega)) (by omega) (by omega)
  have b2 := fix_Ball (w := w) (szR_mono x1 (show _ ≤ 200 by omega)) (szR_mono x2 (show _ ≤ 200 by omega)) (by omega) (by omega)
  obtain ⟨j1, j2, j3⟩ := mulS (w := w) (α := 10) (β := 2) (γ := 3) (δ := 7) um i1 (show unN hi w + 1 ≤ 10 * 2 ^ w by omega) i2 ul i3
  have e9 : 2 ^ (w + 9) = 2 ^ w * 512 := Nat.pow_add _ _ _
  have lh2 : unN hi' w + 1 ≤ 9 * 2 ^ w := by
    have hi3 : hi' ≤ 3 := by
      refine Rat.not_lt.1 fun g => ?_
      have := Rat.mul_le_mul_of_nonneg_left W8 (show 0 ≤ hi' - lo' by grind)
      grind
    have u := (unN_le (show 0 ≤ hi' by grind) w).1
    have m := Rat.mul_le_mul_of_nonneg_right hi3 (Rat.le_of_lt W)
    have t : ((unN hi' w : Nat) : Rat) ≤ ((3 * 2 ^ w : Nat) : Rat) := by
      rw [Ex.castmul]; exact Rat.le_trans u m
    have : unN hi' w ≤ 3 * 2 ^ w := by exact_mod_cast t
    omega
  have um2 := unN_mono (show 0 ≤ lo' by grind) lh' w
  have k1 := lim_len_pw (n := unN lo w) (w := w + 9) (by omega)
  have k2 := lim_len_pw (n := unN hi w + 1) (w := w + 9) (by omega)
  have k3 := lim_len_pw (n := unN lo' w) (w := w + 9) (by omega)
  have k4 := lim_len_pw (n := unN hi' w + 1) (w := w + 9) (by omega)
  have k5 := lim_len_pw (n := 2 ^ (2 * w) / unN lo' w + 1) (w := w + 9) (by omega)
  have k6 := lim_len_pw (n := 2 ^ (2 * w) / (unN hi' w + 1)) (w := w + 9) (by omega)
  have iv := fix_Inverse (a := unN lo' w) (b := unN hi' w + 1) (w := w) (by omega) (by omega) (by omega) (by omega) (by omega)
  have mu := fix_Mul (a := unN lo w) (b := unN hi w + 1) (c := 2 ^ (2 * w) / (unN hi' w + 1)) (d := 2 ^ (2 * w) / unN lo' w + 1) (w := w) (by omega) (by omega) (by omega) (by omega) (by omega) (by omega)
  have en : ∀ s, lo ≤ s → s ≤ hi → Enc w (unN lo w * (2 ^ (2 * w) / (unN hi' w + 1)) / 2 ^ w) ((unN hi w + 1) * (2 ^ (2 * w) / unN lo' w + 1) / 2 ^ w + 1) (s * (1 / SQ)) := fun s g1 g2 => enc_mul (ball_enc l0 g1 g2 w) (enc_inv (show 0 < unN lo' w by omega) (ball_enc (show 0 ≤ lo' by grind) r1 r2 w)).1
  refine ⟨_, _, lo, hi, ?_, j1, by omega, by omega, l0, lh, l1, l2, en⟩
  clear en j1 j2 j3 i1 i2 i3 i4 i5 l0 lh l1 l2 l3 h1 h2 h3 h4 r1 r2 r3 k1 k2 k3 k4 k5 k6 lo1 lh' hlo hhi uh ul um lh2 q1 q2 sq2
  generalize 2 ^ (2 * w) / (unN hi' w + 1) = I1 at *
  generalize 2 ^ (2 * w) / unN lo' w + 1 = I2 at *
  generalize unN hi w + 1 = u2 at *
  generalize unN lo w = u1 at *
  generalize unN hi' w + 1 = u4 at *
  generalize unN lo' w = u3 at *
  generalize u1 * I1 / 2 ^ w = Z1 at *
  generalize u2 * I2 / 2 ^ w + 1 = Z2 at *
  obtain ⟨s0, n0, d0, rfl, -⟩ := hv
  refine Go.Ev.Fn.intro (fn := Tryz.f126) (body := (Tryz.f126).body.get!) (by kernel_rfl) (by kernel_rfl) (by kernel_rfl) (fun _ => rfl) (Nat.le_of_ble_eq_true (by kernel_rfl)) ?_; unfold Tryz.f126; simp only [Option.get!_some]
  repeat (first | (simp only [go_sem, Nat.reduceEqDiff, Nat.reduceAdd, Nat.reduceSub, Nat.reduceMul, Nat.reduceLeDiff, Nat.reduceLT, reduceIte, reduceCtorEq, Nat.succ_ne_zero, elemsC, Int.reduceToNat, Nat.reducePow]) | (simp (disch := (first | omega | (simp only [AL, List.length_map]; omega))) only [AR, AL, ifT, ifF, take_all, List.length_cons, List.length_nil, Int.reduceToNat, Int.reducePow, Nat.reducePow]) | (refine wk_intro (by kernel_rfl) ?_) | (refine vp_draw (id := 3) (l := []) (by kernel_rfl) ?_) | (refine vf_of (by first | exact fs | exact fp | exact fr | exact b1 | exact b2 | exact iv | exact mu) ?_))
def igC (n : Nat) (s : Rat) : Rat := if n % 2 = 1 then s * (1 / SQ) * 2 else 1
set_option maxHeartbeats 1000000 in
theorem incg_power {x : Rat} (hz : szR x 7) (h0 : 0 ≤ x) (h64 : x ≤ 64) (hn : 1 ≤ n) (hn2 : n ≤ 30) (hw0 : 8 ≤ w) (hw : w < 233) :
    ∃ A B : Nat, ∃ lo hi : Rat, Go.Ev.Fn CX 61 [.int .i64 (n : Int), rv x, .int .i64 (w : Int)] (spanV A B) ∧ A ≤ B ∧ B ≤ (igP n).1 * 2 ^ w ∧ B ≤ A + (igP n).2 ∧ 0 ≤ lo ∧ lo ≤ hi ∧ lo * lo ≤ x ∧ x ≤ hi * hi ∧ ∀ s, lo ≤ s → s ≤ hi → Enc w A B (igC n s * tk (x * 2) (2 + n % 2) (n / 2)) := by
  obtain ⟨R1, R2, lo, hi, fr, r1, r2, r3, l0, lh, l1, l2, en⟩ := incg_roots (w := w) (RatA_rv hz) h0 h64 hw0 hw
  have zp := Nat.le_trans hz.1 (show 7 ≤ 100 by omega)
  have zd := Nat.le_trans hz.2 (show 7 ≤ 100 by omega)
  have er : rv x = ratV false (lim x.num.natAbs) (lim x.den) := ervP h0
  have hN : x.num.natAbs ≤ 64 * x.den := by
    have d := Ex.denR x
    have e : ((x.num.natAbs : Nat) : Rat) = (x.num : Rat) := by rw [← castZn, num_abs h0]
    have dR : (0 : Rat) < (x.den : Rat) := by exact_mod_cast x.den_pos
    have m := Rat.mul_le_mul_of_nonneg_right h64 (Rat.le_of_lt dR)
    rw [d, ← e] at m
    have : ((x.num.natAbs : Nat) : Rat) ≤ ((64 * x.den : Nat) : Rat) := by rw [Ex.castmul]; exact m
    exact_mod_cast this
  have hx : x * (x.den : Rat) = ((x.num.natAbs : Nat) : Rat) := by rw [Ex.denR x, ← castZn, num_abs h0]
  have hD := x.den_pos
  rw [er] at fr ⊢
  generalize x.num.natAbs = N at *
  generalize x.den = D at *
  have fx := fix_RatS (s := false) (n := N) (d := D) (w := w) hD (by omega) (by omega) (by omega)
  have P : 2 ^ 8 ≤ 2 ^ w := Nat.pow_le_pow_right (by omega) (by omega)
  obtain ⟨b1, b2, b3, b4, b5⟩ := by_ok (w := w) hD hN (by omega)
  have by5 := b5 x hx
  clear b5
  generalize N * 2 ^ w / D = T at *
  have e9 : 2 ^ (w + 9) = 2 ^ w * 512 := Nat.pow_add _ _ _
  have lT := lim_len_pw (n := T) (w := w + 9) (by omega)
  have lT1 := lim_len_pw (n := T + 1) (w := w + 9) (by omega)
  have o2 := nat_Of 2 (by omega)
  have o1 := fix_One
  have l1' := lim_len1
  have l2' : (lim 2).length ≤ 1 := lim_len_one (by decide)
  have ti := fix_Times (a := T) (b := T + 1) (n := 2) (d := 1) (by omega) (by omega) (by omega) (by omega) (by omega)
  have un := fix_Unit (w := w) (by omega)
  have lR1 := lim_len_pw (n := R1) (w := w + 9) (by omega)
  have lR2 := lim_len_pw (n := R2) (w := w + 9) (by omega)
  have tr := fix_Times (a := R1) (b := R2) (n := 2) (d := 1) (by omega) (by omega) (by omega) (by omega) (by omega)
  generalize T * 2 / 1 = Q1 at *
  generalize (T + 1) * 2 / 1 + 1 = Q2 at *
  have lQ1 := lim_len_pw (n := Q1) (w := w + 9) (by omega)
  have lQ2 := lim_len_pw (n := Q2) (w := w + 9) (by omega)
  have step : ∀ (k a b : Nat), 1 ≤ k → k < 1000 → a ≤ b → (lim b).length ≤ 2000 → (Go.Ev.Fn CX 60 [spanV a b, spanV Q1 Q2, .int .i64 (w : Int)] (spanV (a * Q1 / 2 ^ w) (b * Q2 / 2 ^ w + 1))) ∧ Go.Ev.Fn CX 125 [spanV (a * Q1 / 2 ^ w) (b * Q2 / 2 ^ w + 1), natV (lim 1), natV (lim k)] (spanV (a * Q1 / 2 ^ w * 1 / k) ((b * Q2 / 2 ^ w + 1) * 1 / k + 1)) ∧ a * Q1 / 2 ^ w * 1 / k ≤ (b * Q2 / 2 ^ w + 1) * 1 / k + 1 ∧ (lim ((b * Q2 / 2 ^ w + 1) * 1 / k + 1)).length ≤ (lim b).length + 20 := by
    intro k a b hk hk2 hab hb
    have la := lim_len_mono hab
    have z1 := lim_len_mul (a := a) (b := Q1)
    have z2 := lim_len_mul (a := b) (b := Q2)
    have z3 := lim_len_mono (Nat.div_le_self (a * Q1) (2 ^ w))
    have z5 := lim_len_mono (Nat.div_le_self (b * Q2) (2 ^ w))
    have z4 := lim_len_add (a := b * Q2 / 2 ^ w) (b := 1) (L := (lim b).length + 9) (by omega) (by omega)
    have z6 := lim_len_mono (Nat.div_le_self ((b * Q2 / 2 ^ w + 1) * 1) k)
    rw [Nat.mul_one (b * Q2 / 2 ^ w + 1)] at z6
    have z7 := lim_len_add (a := (b * Q2 / 2 ^ w + 1) * 1 / k) (b := 1) (L := (lim b).length + 10) (by rw [Nat.mul_one]; omega) (by omega)
    have lk : (lim k).length ≤ 1 := lim_len_one (by omega)
    refine ⟨fix_Mul (by omega) (by omega) (by omega) (by omega) (by omega) (by omega), fix_Times (by omega) (by omega) (by omega) (by omega) (by omega), ?_, by omega⟩
    refine Nat.le_succ_of_le (Nat.div_le_div_right (Nat.mul_le_mul_right 1 ?_))
    exact Nat.le_succ_of_le (Nat.div_le_div_right (Nat.mul_le_mul hab b1))
  have an := and_one64 (a := n) (by omega)
  by_cases hod : n % 2 = 1
  · have gP : igP n = wPow 129 41 (n / 2) 3 50 400 := if_pos hod
    obtain ⟨c1, c2, c3⟩ := pRow_wide (W := 129) (D := 41) b3 b1 b2 (n / 2) 3 (R1 * 2 / 1) (R2 * 2 / 1 + 1) 50 400 (by omega) (by omega) (by omega) (by omega)
    rw [← gP] at c2 c3
    have hk0 : 2 + n % 2 = 3 := by omega
    have pe : ∀ s, lo ≤ s → s ≤ hi → Enc w (pRow w Q1 Q2 (n / 2) 3 (R1 * 2 / 1) (R2 * 2 / 1 + 1)).1 (pRow w Q1 Q2 (n / 2) 3 (R1 * 2 / 1) (R2 * 2 / 1 + 1)).2 (igC n s * tk (x * 2) (2 + n % 2) (n / 2)) := by
      intro s g1 g2
      rw [hk0]
      have h := pRow_enc (c := igC n s) (k0 := 3) (by omega) by5 (n / 2) 0 _ _ (by
      have e := enc_times (n := 2) (d := 1) (by omega) (en s g1 g2)
      rw [times2] at e
      rw [show igC n s = s * (1 / SQ) * 2 from if_pos hod]
      show Enc w _ _ (_ * 1)
      rw [Rat.mul_one]; exact e)
      rw [Nat.zero_add] at h
      exact h
    obtain ⟨A, B, hAB⟩ : ∃ A B : Nat, pRow w Q1 Q2 (n / 2) 3 (R1 * 2 / 1) (R2 * 2 / 1 + 1) = (A, B) := ⟨_, _, rfl⟩
    rw [hAB] at c1 c2 c3 pe
    refine ⟨A, B, lo, hi, ?_, c1, c2, c3, l0, lh, l1, l2, pe⟩
    have lS : (lim (R2 * 2 / 1 + 1)).length ≤ 100 := Nat.le_trans (lim_len_pw (w := w + 9) (by omega)) (by omega)
    have hS : R1 * 2 / 1 ≤ (R2 * 2 / 1 + 1) := by omega
    rw [hod] at an
    clear pe c1 c2 c3 gP hk0 en by5 b2 b3 b4 e9 P l0 lh l1 l2 r1 r2 r3
    generalize R1 * 2 / 1 = S1 at *
    generalize R2 * 2 / 1 + 1 = S2 at *
    refine Go.Ev.Fn.intro (fn := Tryz.f61) (body := (Tryz.f61).body.get!) (by kernel_rfl) (by kernel_rfl) (by kernel_rfl) (fun _ => rfl) (Nat.le_of_ble_eq_true (by kernel_rfl)) ?_; unfold Tryz.f61; simp only [Option.get!_some]
    repeat (first | (simp only [go_sem, Nat.reduceEqDiff, Nat.reduceAdd, Nat.reduceSub, Nat.reduceMul, Nat.reduceLeDiff, Nat.reduceLT, reduceIte, reduceCtorEq, Nat.succ_ne_zero, elemsC, Int.reduceToNat, Nat.reducePow, an]) | (simp (disch := (first | omega | (simp only [AL, List.length_map]; omega))) only [AR, AL, ifT, ifF, take_all, List.length_cons, List.length_nil, Int.reduceToNat, Int.reducePow, Nat.reducePow, an]) | (refine wk_intro (by kernel_rfl) ?_) | (refine vf_of (by first | exact un | exact fr | exact o2 | exact o1 | exact tr | exact fx | exact ti) ?_))
    refine vp_loop_inv (fun s' => s'.tmp 0 = .sv (.int .i64 (n : Int)) ∧ s'.tmp 2 = .sv (.int .i64 (w : Int)) ∧ s'.tmp 6 = .ptr 6 0 0 ∧ s'.obj 6 0 = some [.sl 0 [], .sl 0 []] ∧ s'.tmp 7 = .ptr 7 0 0 ∧ s'.tmp 9 = .ptr 9 0 0 ∧ s'.obj 9 0 = some [natV (lim Q1), natV (lim Q2)] ∧
        ∃ f i a b : Nat, s'.tmp 10 = .sv (.int .i64 ((3 + 2 * i : Nat) : Int)) ∧ f + i = n / 2 ∧ pRow w Q1 Q2 f (3 + 2 * i) a b = (A, B) ∧ s'.obj 7 0 = some [natV (lim a), natV (lim b)] ∧ a ≤ b ∧ (lim b).length ≤ 100 + 20 * i)
      (fun s' => match s'.tmp 10 with | .sv (.int _ i) => 1000 - i.toNat | _ => 0) ⟨rfl, rfl, rfl, rfl, rfl, rfl, rfl, n / 2, 0, S1, S2, rfl, by omega, hAB, rfl, hS, by omega⟩ ?_
    rintro s' ⟨i0, i2, i6, o6, i7, i9, o9, f, i, a, b, i10, hfi, hgo, o7, hab, hlb⟩
    have la := lim_len_mono hab
    cases f with
    | zero =>
        have hgo' : (a, b) = (A, B) := hgo
        simp only [Prod.mk.injEq] at hgo'
        obtain ⟨rfl, rfl⟩ := hgo'
        clear step hAB
        repeat (first | (simp only [go_sem, Nat.reduceEqDiff, Nat.reduceAdd, Nat.reduceSub, Nat.reduceMul, Nat.reduceLeDiff, Nat.reduceLT, reduceIte, reduceCtorEq, Nat.succ_ne_zero, elemsC, Int.reduceToNat, Nat.reducePow, i0, i2, i6, o6, i7, i9, o9, i10, o7]) | (simp (disch := (first | omega | (simp only [AL, List.length_map]; omega))) only [AR, AL, ifT, ifF, take_all, List.length_cons, List.length_nil, Int.reduceToNat, Int.reducePow, Nat.reducePow, i0, i2, i6, o6, i7, i9, o9, i10, o7]) | (refine wk_intro (by kernel_rfl) ?_))
    | succ f =>
        obtain ⟨mu, tk, s1, s2⟩ := step (3 + 2 * i) a b (by omega) (by omega) hab (by omega)
        have qk := nat_Of (3 + 2 * i) (by omega)
        have hgo' : pRow w Q1 Q2 f (3 + 2 * i + 2) (a * Q1 / 2 ^ w * 1 / (3 + 2 * i)) ((b * Q2 / 2 ^ w + 1) * 1 / (3 + 2 * i) + 1) = (A, B) := hgo
        clear step hAB hgo
        generalize a * Q1 / 2 ^ w * 1 / (3 + 2 * i) = u1 at *
        generalize (b * Q2 / 2 ^ w + 1) * 1 / (3 + 2 * i) + 1 = u2 at *
        generalize a * Q1 / 2 ^ w = v1 at *
        generalize b * Q2 / 2 ^ w + 1 = v2 at *
        repeat (first | (simp only [go_sem, Nat.reduceEqDiff, Nat.reduceAdd, Nat.reduceSub, Nat.reduceMul, Nat.reduceLeDiff, Nat.reduceLT, reduceIte, reduceCtorEq, Nat.succ_ne_zero, elemsC, Int.reduceToNat, Nat.reducePow, i0, i2, i6, o6, i7, i9, o9, i10, o7]) | (simp (disch := (first | omega | (simp only [AL, List.length_map]; omega))) only [AR, AL, ifT, ifF, take_all, List.length_cons, List.length_nil, Int.reduceToNat, Int.reducePow, Nat.reducePow, i0, i2, i6, o6, i7, i9, o9, i10, o7]) | (refine wk_intro (by kernel_rfl) ?_) | (refine vf_of (by first | exact mu | exact o1 | exact qk | exact tk) ?_))
        exact ⟨⟨f, i + 1, u1, u2, by first | rfl | (congr 2; omega), by omega, hgo', rfl, s1, by omega⟩, by omega⟩
  · have gP : igP n = wPow 129 41 (n / 2) 2 2 1 := if_neg hod
    obtain ⟨c1, c2, c3⟩ := pRow_wide (W := 129) (D := 41) b3 b1 b2 (n / 2) 2 (2 ^ w) (2 ^ w + 1) 2 1 (by omega) (by omega) (by omega) (by omega)
    rw [← gP] at c2 c3
    have hk0 : 2 + n % 2 = 2 := by omega
    have pe : ∀ s, lo ≤ s → s ≤ hi → Enc w (pRow w Q1 Q2 (n / 2) 2 (2 ^ w) (2 ^ w + 1)).1 (pRow w Q1 Q2 (n / 2) 2 (2 ^ w) (2 ^ w + 1)).2 (igC n s * tk (x * 2) (2 + n % 2) (n / 2)) := by
      intro s g1 g2
      rw [hk0]
      have h := pRow_enc (c := igC n s) (k0 := 2) (by omega) by5 (n / 2) 0 _ _ (by
      rw [show igC n s = 1 from if_neg hod]
      show Enc w _ _ (1 * 1)
      rw [Rat.mul_one]; exact one_encE w)
      rw [Nat.zero_add] at h
      exact h
    obtain ⟨A, B, hAB⟩ : ∃ A B : Nat, pRow w Q1 Q2 (n / 2) 2 (2 ^ w) (2 ^ w + 1) = (A, B) := ⟨_, _, rfl⟩
    rw [hAB] at c1 c2 c3 pe
    refine ⟨A, B, lo, hi, ?_, c1, c2, c3, l0, lh, l1, l2, pe⟩
    have lS : (lim (2 ^ w + 1)).length ≤ 100 := Nat.le_trans (lim_len_pw (w := w + 9) (by omega)) (by omega)
    have hS : 2 ^ w ≤ (2 ^ w + 1) := by omega
    rw [show n % 2 = 0 by omega] at an
    clear pe c1 c2 c3 gP hk0 en by5 b2 b3 b4 e9 P l0 lh l1 l2 r1 r2 r3
    obtain ⟨S1, hS1⟩ : ∃ z : Nat, z = 2 ^ w := ⟨_, rfl⟩
    rw [← hS1] at un hAB hS lS
    refine Go.Ev.Fn.intro (fn := Tryz.f61) (body := (Tryz.f61).body.get!) (by kernel_rfl) (by kernel_rfl) (by kernel_rfl) (fun _ => rfl) (Nat.le_of_ble_eq_true (by kernel_rfl)) ?_; unfold Tryz.f61; simp only [Option.get!_some]
    repeat (first | (simp only [go_sem, Nat.reduceEqDiff, Nat.reduceAdd, Nat.reduceSub, Nat.reduceMul, Nat.reduceLeDiff, Nat.reduceLT, reduceIte, reduceCtorEq, Nat.succ_ne_zero, elemsC, Int.reduceToNat, Nat.reducePow, an]) | (simp (disch := (first | omega | (simp only [AL, List.length_map]; omega))) only [AR, AL, ifT, ifF, take_all, List.length_cons, List.length_nil, Int.reduceToNat, Int.reducePow, Nat.reducePow, an]) | (refine wk_intro (by kernel_rfl) ?_) | (refine vf_of (by first | exact un | exact fx | exact o2 | exact o1 | exact ti) ?_))
    refine vp_loop_inv (fun s' => s'.tmp 0 = .sv (.int .i64 (n : Int)) ∧ s'.tmp 2 = .sv (.int .i64 (w : Int)) ∧ s'.tmp 6 = .ptr 6 0 0 ∧ s'.obj 6 0 = some [.sl 0 [], .sl 0 []] ∧ s'.tmp 7 = .ptr 7 0 0 ∧ s'.tmp 9 = .ptr 9 0 0 ∧ s'.obj 9 0 = some [natV (lim Q1), natV (lim Q2)] ∧
        ∃ f i a b : Nat, s'.tmp 10 = .sv (.int .i64 ((2 + 2 * i : Nat) : Int)) ∧ f + i = n / 2 ∧ pRow w Q1 Q2 f (2 + 2 * i) a b = (A, B) ∧ s'.obj 7 0 = some [natV (lim a), natV (lim b)] ∧ a ≤ b ∧ (lim b).length ≤ 100 + 20 * i)
      (fun s' => match s'.tmp 10 with | .sv (.int _ i) => 1000 - i.toNat | _ => 0) ⟨rfl, rfl, rfl, rfl, rfl, rfl, rfl, n / 2, 0, S1, (S1 + 1), rfl, by omega, hAB, rfl, hS, by omega⟩ ?_
    rintro s' ⟨i0, i2, i6, o6, i7, i9, o9, f, i, a, b, i10, hfi, hgo, o7, hab, hlb⟩
    have la := lim_len_mono hab
    cases f with
    | zero =>
        have hgo' : (a, b) = (A, B) := hgo
        simp only [Prod.mk.injEq] at hgo'
        obtain ⟨rfl, rfl⟩ := hgo'
        clear step hAB
        repeat (first | (simp only [go_sem, Nat.reduceEqDiff, Nat.reduceAdd, Nat.reduceSub, Nat.reduceMul, Nat.reduceLeDiff, Nat.reduceLT, reduceIte, reduceCtorEq, Nat.succ_ne_zero, elemsC, Int.reduceToNat, Nat.reducePow, i0, i2, i6, o6, i7, i9, o9, i10, o7]) | (simp (disch := (first | omega | (simp only [AL, List.length_map]; omega))) only [AR, AL, ifT, ifF, take_all, List.length_cons, List.length_nil, Int.reduceToNat, Int.reducePow, Nat.reducePow, i0, i2, i6, o6, i7, i9, o9, i10, o7]) | (refine wk_intro (by kernel_rfl) ?_))
    | succ f =>
        obtain ⟨mu, tk, s1, s2⟩ := step (2 + 2 * i) a b (by omega) (by omega) hab (by omega)
        have qk := nat_Of (2 + 2 * i) (by omega)
        have hgo' : pRow w Q1 Q2 f (2 + 2 * i + 2) (a * Q1 / 2 ^ w * 1 / (2 + 2 * i)) ((b * Q2 / 2 ^ w + 1) * 1 / (2 + 2 * i) + 1) = (A, B) := hgo
        clear step hAB hgo
        generalize a * Q1 / 2 ^ w * 1 / (2 + 2 * i) = u1 at *
        generalize (b * Q2 / 2 ^ w + 1) * 1 / (2 + 2 * i) + 1 = u2 at *
        generalize a * Q1 / 2 ^ w = v1 at *
        generalize b * Q2 / 2 ^ w + 1 = v2 at *
        repeat (first | (simp only [go_sem, Nat.reduceEqDiff, Nat.reduceAdd, Nat.reduceSub, Nat.reduceMul, Nat.reduceLeDiff, Nat.reduceLT, reduceIte, reduceCtorEq, Nat.succ_ne_zero, elemsC, Int.reduceToNat, Nat.reducePow, i0, i2, i6, o6, i7, i9, o9, i10, o7]) | (simp (disch := (first | omega | (simp only [AL, List.length_map]; omega))) only [AR, AL, ifT, ifF, take_all, List.length_cons, List.length_nil, Int.reduceToNat, Int.reducePow, Nat.reducePow, i0, i2, i6, o6, i7, i9, o9, i10, o7]) | (refine wk_intro (by kernel_rfl) ?_) | (refine vf_of (by first | exact mu | exact o1 | exact qk | exact tk) ?_))
        exact ⟨⟨f, i + 1, u1, u2, by first | rfl | (congr 2; omega), by omega, hgo', rfl, s1, by omega⟩, by omega⟩
end
end Go.Proofs.YtemnjalaincijaaGreat
namespace Go.Proofs.YtemnjalaincijaaGreat
open Go.Ev
theorem ev_le1 {z : Rat} (h : z < 0) {L : Nat} (hL : 1 ≤ L) : evX z L ≤ 1 ∧ 0 ≤ evX z L := by
  unfold evX
  rw [if_pos h]
  have one := E_one (x := -z) (by grind) hL
  have i : Ex.E (-z) L * (1 / Ex.E (-z) L) = 1 := Ex.mul_div _ 1 (by grind)
  have i0 : 0 ≤ 1 / Ex.E (-z) L := Ex.div_nn (by decide) (by grind)
  have := Rat.mul_le_mul_of_nonneg_right one i0
  rw [i, Rat.one_mul] at this
  exact ⟨this, i0⟩
def igV (n : Nat) (s x : Rat) (L : Nat) : Rat := igC n s * tk (x * 2) (2 + n % 2) (n / 2) * (1 * sk (x * 2) (n + 2) L) * evX (-x) L
section
variable {v : SV} {x : Rat} {n P : Nat} {pI : Int}
theorem incg_in {nI : Int} (hz : szR x 7) (h0 : 0 ≤ x) (h64 : x ≤ 64) (hn : 1 ≤ nI) (hn2 : nI ≤ 256) : Go.Ev.Fn CX 54 [.int .i64 nI, rv x] (.bool false) := by
  have i0 := rat_Int 0 (by omega)
  have i6 := rat_Int 64 (by omega)
  have c1 := rat_Cmp (RatA_rv hz) (RatA_rv (int_szR (n := 0) (by omega))) (by omega) (by omega) (by omega)
  have c2 := rat_Cmp (RatA_rv hz) (RatA_rv (int_szR (n := 64) (by omega))) (by omega) (by omega) (by omega)
  have e1 : decide (cmpR x ((0 : Int) : Rat) < 0) = false := by rw [cmpR_lt]; exact decide_eq_false (Rat.not_lt.2 h0)
  have e2 : decide (cmpR x ((64 : Int) : Rat) > 0) = false := by rw [cmpR_gt]; exact decide_eq_false (Rat.not_lt.2 h64)
  generalize cmpR x ((0 : Int) : Rat) = y1 at *
  generalize cmpR x ((64 : Int) : Rat) = y2 at *
  clear h0 h64
  refine Go.Ev.Fn.intro (fn := Tryz.f54) (body := (Tryz.f54).body.get!) (by kernel_rfl) (by kernel_rfl) (by kernel_rfl) (fun _ => rfl) (Nat.le_of_ble_eq_true (by kernel_rfl)) ?_; unfold Tryz.f54; simp only [Option.get!_some]
  repeat (first | (simp only [go_sem, Nat.reduceEqDiff, Nat.reduceAdd, Nat.reduceSub, Nat.reduceMul, Nat.reduceLeDiff, Nat.reduceLT, reduceIte, reduceCtorEq, Nat.succ_ne_zero, elemsC, Int.reduceToNat, Nat.reducePow, e1, e2]) | (simp (disch := (first | omega | (simp only [AL, List.length_map]; omega))) only [AR, AL, ifT, ifF, take_all, List.length_cons, List.length_nil, Int.reduceToNat, Int.reducePow, Nat.reducePow, e1, e2]) | (refine wk_intro (by kernel_rfl) ?_) | (refine vp_draw (id := 1) (l := []) (by kernel_rfl) ?_) | (refine vf_of (by first | exact i0 | exact c1 | exact i6 | exact c2) ?_))
theorem incg_out {nI : Int} (hz : szR x 7) (hn1 : -9223372036854775808 ≤ nI ∧ nI < 9223372036854775808) (h : nI < 1 ∨ 256 < nI ∨ x < 0 ∨ 64 < x) : Go.Ev.Fn CX 54 [.int .i64 nI, rv x] (.bool true) := by
  have i0 := rat_Int 0 (by omega)
  have i6 := rat_Int 64 (by omega)
  have c1 := rat_Cmp (RatA_rv hz) (RatA_rv (int_szR (n := 0) (by omega))) (by omega) (by omega) (by omega)
  have c2 := rat_Cmp (RatA_rv hz) (RatA_rv (int_szR (n := 64) (by omega))) (by omega) (by omega) (by omega)
  have e1 : decide (cmpR x ((0 : Int) : Rat) < 0) = decide (x < 0) := by rw [cmpR_lt]; rfl
  have e2 : decide (cmpR x ((64 : Int) : Rat) > 0) = decide (64 < x) := by rw [cmpR_gt]; rfl
  generalize cmpR x ((0 : Int) : Rat) = y1 at *
  generalize cmpR x ((64 : Int) : Rat) = y2 at *
  by_cases g1 : nI < 1
  · clear h
    refine Go.Ev.Fn.intro (fn := Tryz.f54) (body := (Tryz.f54).body.get!) (by kernel_rfl) (by kernel_rfl) (by kernel_rfl) (fun _ => rfl) (Nat.le_of_ble_eq_true (by kernel_rfl)) ?_; unfold Tryz.f54; simp only [Option.get!_some]
    repeat (first | (simp only [go_sem, Nat.reduceEqDiff, Nat.reduceAdd, Nat.reduceSub, Nat.reduceMul, Nat.reduceLeDiff, Nat.reduceLT, reduceIte, reduceCtorEq, Nat.succ_ne_zero, elemsC, Int.reduceToNat, Nat.reducePow]) | (simp (disch := (first | omega | (simp only [AL, List.length_map]; omega))) only [AR, AL, ifT, ifF, take_all, List.length_cons, List.length_nil, Int.reduceToNat, Int.reducePow, Nat.reducePow]) | (refine wk_intro (by kernel_rfl) ?_) | (refine vp_draw (id := 1) (l := []) (by kernel_rfl) ?_))
  by_cases g2 : 256 < nI
  · clear h
    refine Go.Ev.Fn.intro (fn := Tryz.f54) (body := (Tryz.f54).body.get!) (by kernel_rfl) (by kernel_rfl) (by kernel_rfl) (fun _ => rfl) (Nat.le_of_ble_eq_true (by kernel_rfl)) ?_; unfold Tryz.f54; simp only [Option.get!_some]
    repeat (first | (simp only [go_sem, Nat.reduceEqDiff, Nat.reduceAdd, Nat.reduceSub, Nat.reduceMul, Nat.reduceLeDiff, Nat.reduceLT, reduceIte, reduceCtorEq, Nat.succ_ne_zero, elemsC, Int.reduceToNat, Nat.reducePow]) | (simp (disch := (first | omega | (simp only [AL, List.length_map]; omega))) only [AR, AL, ifT, ifF, take_all, List.length_cons, List.length_nil, Int.reduceToNat, Int.reducePow, Nat.reducePow]) | (refine wk_intro (by kernel_rfl) ?_) | (refine vp_draw (id := 1) (l := []) (by kernel_rfl) ?_))
  by_cases g3 : x < 0
  · rw [decide_eq_true g3] at e1
    clear h g3 hz
    refine Go.Ev.Fn.intro (fn := Tryz.f54) (body := (Tryz.f54).body.get!) (by kernel_rfl) (by kernel_rfl) (by kernel_rfl) (fun _ => rfl) (Nat.le_of_ble_eq_true (by kernel_rfl)) ?_; unfold Tryz.f54; simp only [Option.get!_some]
    repeat (first | (simp only [go_sem, Nat.reduceEqDiff, Nat.reduceAdd, Nat.reduceSub, Nat.reduceMul, Nat.reduceLeDiff, Nat.reduceLT, reduceIte, reduceCtorEq, Nat.succ_ne_zero, elemsC, Int.reduceToNat, Nat.reducePow, e1]) | (simp (disch := (first | omega | (simp only [AL, List.length_map]; omega))) only [AR, AL, ifT, ifF, take_all, List.length_cons, List.length_nil, Int.reduceToNat, Int.reducePow, Nat.reducePow, e1]) | (refine wk_intro (by kernel_rfl) ?_) | (refine vp_draw (id := 1) (l := []) (by kernel_rfl) ?_) | (refine vf_of (by first | exact i0 | exact c1) ?_))
  · rw [decide_eq_false g3] at e1
    rw [decide_eq_true ((h.resolve_left g1).resolve_left g2 |>.resolve_left g3)] at e2
    clear h g3 hz
    refine Go.Ev.Fn.intro (fn := Tryz.f54) (body := (Tryz.f54).body.get!) (by kernel_rfl) (by kernel_rfl) (by kernel_rfl) (fun _ => rfl) (Nat.le_of_ble_eq_true (by kernel_rfl)) ?_; unfold Tryz.f54; simp only [Option.get!_some]
    repeat (first | (simp only [go_sem, Nat.reduceEqDiff, Nat.reduceAdd, Nat.reduceSub, Nat.reduceMul, Nat.reduceLeDiff, Nat.reduceLT, reduceIte, reduceCtorEq, Nat.succ_ne_zero, elemsC, Int.reduceToNat, Nat.reducePow, e1, e2]) | (simp (disch := (first | omega | (simp only [AL, List.length_map]; omega))) only [AR, AL, ifT, ifF, take_all, List.length_cons, List.length_nil, Int.reduceToNat, Int.reducePow, Nat.reducePow, e1, e2]) | (refine wk_intro (by kernel_rfl) ?_) | (refine vp_draw (id := 1) (l := []) (by kernel_rfl) ?_) | (refine vf_of (by first | exact i0 | exact c1 | exact i6 | exact c2) ?_))
theorem incg_Pout {nI : Int} (hv : RatA v x 7) (hn1 : -9223372036854775808 ≤ nI ∧ nI < 9223372036854775808) (h : nI < 1 ∨ 256 < nI ∨ x < 0 ∨ 64 < x) : Go.Ev.Fn CX 16 [.int .i64 nI, v, .int .i64 pI] (.tup [ballR 0 0, .bool false]) := by
  have nm := rat_Norm hv (by omega)
  have io := incg_out (szR_of hv (by omega)) hn1 h
  have i0 := rat_Int 0 (by omega)
  have o := ball_Of (RatA_rv (int_szR (n := 0) (by omega))) (by omega)
  rw [show ((0 : Int) : Rat) = 0 from rfl] at i0 o
  clear h
  obtain ⟨s, N, D, rfl, -⟩ := hv
  refine Go.Ev.Fn.intro (fn := Tryz.f16) (body := (Tryz.f16).body.get!) (by kernel_rfl) (by kernel_rfl) (by kernel_rfl) (fun _ => rfl) (Nat.le_of_ble_eq_true (by kernel_rfl)) ?_; unfold Tryz.f16; simp only [Option.get!_some]
  repeat (first | (simp only [go_sem, Nat.reduceEqDiff, Nat.reduceAdd, Nat.reduceSub, Nat.reduceMul, Nat.reduceLeDiff, Nat.reduceLT, reduceIte, reduceCtorEq, Nat.succ_ne_zero, elemsC, Int.reduceToNat, Nat.reducePow, Bool.not_true]) | (simp (disch := (first | omega | (simp only [AL, List.length_map]; omega))) only [AR, AL, ifT, ifF, take_all, List.length_cons, List.length_nil, Int.reduceToNat, Int.reducePow, Nat.reducePow, Bool.not_true]) | (refine wk_intro (by kernel_rfl) ?_) | (refine vp_draw (id := 3) (l := []) (by kernel_rfl) ?_) | (refine vp_draw (id := 7) (l := []) (by kernel_rfl) ?_) | (refine vp_draw (id := 8) (l := []) (by kernel_rfl) ?_) | (refine vf_of (by first | exact nm | exact io | exact i0 | exact o) ?_))
theorem incg_Pzero {nI : Int} (hv : RatA v 0 7) (hn : 1 ≤ nI) (hn2 : nI ≤ 256) : Go.Ev.Fn CX 16 [.int .i64 nI, v, .int .i64 pI] (.tup [ballR 0 0, .bool true]) := by
  have nm := rat_Norm hv (by omega)
  have zz := szR_of hv (by omega)
  have io := incg_in (nI := nI) zz (by decide) (by decide) hn hn2
  have zr := rat_Zero (RatA_rv zz) (by omega) (by omega)
  rw [decide_eq_true rfl] at zr
  have i0 := rat_Int 0 (by omega)
  have o := ball_Of (RatA_rv (int_szR (n := 0) (by omega))) (by omega)
  rw [show ((0 : Int) : Rat) = 0 from rfl] at i0 o
  clear hn hn2 zz
  obtain ⟨s, N, D, rfl, -⟩ := hv
  refine Go.Ev.Fn.intro (fn := Tryz.f16) (body := (Tryz.f16).body.get!) (by kernel_rfl) (by kernel_rfl) (by kernel_rfl) (fun _ => rfl) (Nat.le_of_ble_eq_true (by kernel_rfl)) ?_; unfold Tryz.f16; simp only [Option.get!_some]
  repeat (first | (simp only [go_sem, Nat.reduceEqDiff, Nat.reduceAdd, Nat.reduceSub, Nat.reduceMul, Nat.reduceLeDiff, Nat.reduceLT, reduceIte, reduceCtorEq, Nat.succ_ne_zero, elemsC, Int.reduceToNat, Nat.reducePow, Bool.not_false]) | (simp (disch := (first | omega | (simp only [AL, List.length_map]; omega))) only [AR, AL, ifT, ifF, take_all, List.length_cons, List.length_nil, Int.reduceToNat, Int.reducePow, Nat.reducePow, Bool.not_false]) | (refine wk_intro (by kernel_rfl) ?_) | (refine vp_draw (id := 3) (l := []) (by kernel_rfl) ?_) | (refine vp_draw (id := 7) (l := []) (by kernel_rfl) ?_) | (refine vp_draw (id := 8) (l := []) (by kernel_rfl) ?_) | (refine vf_of (by first | exact nm | exact io | exact zr | exact i0 | exact o) ?_))
set_option maxHeartbeats 1000000 in
theorem incg_P (hv : RatA v x 7) (h0 : 0 < x) (h64 : x ≤ 64) (hn : 1 ≤ n) (hn2 : n ≤ 30) (hpI : (pI ≤ 0 ∧ P = 0) ∨ pI = (P : Int)) (hP : P ≤ 96) :
    ∃ l h lo hi : Rat, Go.Ev.Fn CX 16 [.int .i64 (n : Int), v, .int .i64 pI] (.tup [ballR l h, .bool true]) ∧ l ≤ h ∧ szR l 400 ∧ szR h 400 ∧ (h - l) * p2 P ≤ 1 ∧ 0 ≤ lo ∧ lo ≤ hi ∧ lo * lo ≤ x ∧ x ≤ hi * hi ∧
      ∀ s, lo ≤ s → s ≤ hi → ∃ L0, ∀ L, L0 ≤ L → l ≤ igV n s x L ∧ igV n s x L ≤ h := by
  obtain ⟨w, hwP, hw1, hw2⟩ : ∃ w : Nat, w = P + 128 ∧ 128 ≤ w ∧ w < 225 := ⟨_, rfl, by omega, by omega⟩
  have zx := szR_of hv (by omega)
  have zn := szR_neg zx
  have nm := rat_Norm hv (by omega)
  have io := incg_in (nI := (n : Int)) zx (Rat.le_of_lt h0) h64 (by omega) (by omega)
  have zr := rat_Zero (RatA_rv zx) (by omega) (by omega)
  rw [decide_eq_false (show ¬ x = 0 by grind)] at zr
  have ng := rat_Neg (RatA_rv zx) (by omega) (by omega)
  have nx : -x < 0 := by grind
  obtain ⟨m, lm, fe, s2, hs2⟩ := exps_Exp (P := w) (pI := (w : Int)) (RatA_rv zn) (by omega) (by omega) (show -x ≠ 0 by grind) (by grind) (by grind) (den_le zn (by omega)) (by omega) (.inr rfl)
  obtain ⟨A, B, lo, hi, fp, p1, p2', p3, l0, lh, l1, l2, pe⟩ := incg_power (w := w) zx (Rat.le_of_lt h0) h64 hn hn2 (by omega) (by omega)
  have er : rv x = ratV false (lim x.num.natAbs) (lim x.den) := ervP (Rat.le_of_lt h0)
  have hN : x.num.natAbs ≤ 64 * x.den := by
    have d := Ex.denR x
    have e : ((x.num.natAbs : Nat) : Rat) = (x.num : Rat) := by rw [← castZn, num_abs (Rat.le_of_lt h0)]
    have dR : (0 : Rat) < (x.den : Rat) := by exact_mod_cast x.den_pos
    have m := Rat.mul_le_mul_of_nonneg_right h64 (Rat.le_of_lt dR)
    rw [d, ← e] at m
    have : ((x.num.natAbs : Nat) : Rat) ≤ ((64 * x.den : Nat) : Rat) := by rw [Ex.castmul]; exact m
    exact_mod_cast this
  have hx : x * (x.den : Rat) = ((x.num.natAbs : Nat) : Rat) := by rw [Ex.denR x, ← castZn, num_abs (Rat.le_of_lt h0)]
  obtain ⟨R1, R2, fr, r1, rB, r2, r3, re⟩ := incg_row (N := x.num.natAbs) (D := x.den) (w := w) (n := n) hn hn2 x.den_pos hN (Nat.le_trans zx.1 (by omega)) (Nat.le_trans zx.2 (by omega)) (by omega) (by omega)
  have fr' := fr false
  rw [← er] at fr'
  obtain ⟨s1, hs1⟩ := re x hx
  have Pw := p2_pos w
  have hm : m ≤ 2 ^ w := by
    have e := (hs2 (s2 + 1) (by omega)).1
    have k := Rat.le_trans e (Rat.mul_le_mul_of_nonneg_right (ev_le1 (z := -x) nx (show 1 ≤ s2 + 1 by omega)).1 (Rat.le_of_lt Pw))
    rw [Rat.one_mul] at k
    exact_mod_cast k
  have P8 : 2 ^ 8 ≤ 2 ^ w := Nat.pow_le_pow_right (by omega) (by omega)
  have e2 : 2 ^ (w + 2) = 2 ^ w * 4 := Nat.pow_add _ _ _
  have lp := lim_len_pw (n := 2 ^ w) (w := w + 2) (by omega)
  have lm2 := lim_len_pw (n := m + 1) (w := w + 2) (by omega)
  have lm1 := lim_len_mono (show m ≤ m + 1 by omega)
  have lm3 := lim_len_pw (n := m + 1 + 1) (w := w + 2) (by omega)
  have fb := fix_Ball (w := w) (lo := mkRat (m : Int) (2 ^ w)) (hi := mkRat ((m + 1 : Nat) : Int) (2 ^ w)) (L := 200) (szR_nat (by omega) (by omega) (by omega)) (szR_nat (by omega) (by omega) (by omega)) (by omega) (by omega)
  rw [unN_mk, unN_mk] at fb
  obtain ⟨g1, g2, g3⟩ := ig_at hn hn2
  obtain ⟨u1, u2, u3⟩ := mulS (w := w) p1 r1 p2' r2 p3 r3
  obtain ⟨y1, y2, y3⟩ := mulS (w := w) (β := 2) (δ := 2) u1 (show m ≤ m + 1 + 1 by omega) u2 (show m + 1 + 1 ≤ 2 * 2 ^ w by omega) u3 (show m + 1 + 1 ≤ m + 2 by omega)
  have ve : ∀ s, lo ≤ s → s ≤ hi → ∃ L0, ∀ L, L0 ≤ L → Enc w (A * R1 / 2 ^ w * m / 2 ^ w) ((B * R2 / 2 ^ w + 1) * (m + 1 + 1) / 2 ^ w + 1) (igV n s x L) := by
    intro s q1 q2
    refine ⟨s1 + s2, fun L hL => ?_⟩
    exact enc_mul (enc_mul (pe s q1 q2) (hs1 L (by omega))) (enc_wider (n := 1) (hs2 L (by omega)))
  clear pe hs1 hs2 re fr g2 g3 hx hN
  have K : (igP n).1 * ((igR n).1 + 1) + 1 ≤ 2 ^ 119 := by omega
  have tw : ∀ k z Z, z ≤ 2 ^ k → Z ≤ z * 2 ^ w → Z ≤ 2 ^ (w + k) := by
    intro k z Z hz hZ
    rw [Nat.add_comm w, Nat.pow_add]
    exact Nat.le_trans hZ (Nat.mul_le_mul_right _ hz)
  have lA : (igP n).1 ≤ 2 ^ 119 := by
    have := Nat.le_mul_of_pos_right (igP n).1 (show 0 < (igR n).1 + 1 by omega)
    omega
  have bB := tw 119 _ _ lA p2'
  have uB := tw 119 _ _ K u2
  have sB := tw 121 _ _ (by omega) y2
  have up : ∀ k, k ≤ 121 → 2 ^ (w + k) < 2 ^ (w + 122) := fun k hk => Nat.pow_lt_pow_right (by omega) (by omega)
  have gap : (B * R2 / 2 ^ w + 1) * (m + 1 + 1) / 2 ^ w + 1 ≤ A * R1 / 2 ^ w * m / 2 ^ w + 2 ^ (w - (P + 2)) := by
    have : 2 ^ 120 ≤ 2 ^ (w - (P + 2)) := Nat.pow_le_pow_right (by omega) (by omega)
    omega
  have lB := lim_len_pw (Nat.lt_of_le_of_lt bB (up 119 (by omega)))
  have lA' := lim_len_mono p1
  have lR := lim_len_pw rB
  have lR1 := lim_len_mono r1
  have lU := lim_len_pw (Nat.lt_of_le_of_lt uB (up 119 (by omega)))
  have lU1 := lim_len_mono u1
  have m1 := fix_Mul (a := A) (b := B) (c := R1) (d := R2) (w := w) (by omega) (by omega) (by omega) (by omega) (by omega) (by omega)
  have m2 := fix_Mul (a := A * R1 / 2 ^ w) (b := B * R2 / 2 ^ w + 1) (c := m) (d := m + 1 + 1) (w := w) (by omega) (by omega) (by omega) (by omega) (by omega) (by omega)
  have sS : (B * R2 / 2 ^ w + 1) * (m + 1 + 1) / 2 ^ w + 1 < 2 ^ (w + 10040) := Nat.lt_of_lt_of_le (Nat.lt_of_le_of_lt sB (up 121 (by omega))) (Nat.pow_le_pow_right (by omega) (by omega))
  obtain ⟨l, h, t1, -, t3, t4, t5, t6, ft⟩ := told_span (p := P + 2) y1 sS (by omega) (by omega)
  have thin := told_thin (p := P) (by omega) gap
  rw [← t5, ← t6] at thin
  refine ⟨l, h, lo, hi, ?_, t1, t3, t4, thin, l0, lh, l1, l2, fun s q1 q2 => ?_⟩
  rotate_left
  · obtain ⟨L0, hL⟩ := ve s q1 q2
    refine ⟨L0, fun L h => ?_⟩
    have := told_in (q := P + 2) (by omega) (hL L h)
    rw [← t5, ← t6] at this
    exact this
  have x1 : (if (0 : Int) > pI then (0 : Int) else pI) = (P : Int) := by split <;> omega
  have x2 : (if (200 : Int) < (P : Int) then (200 : Int) else (P : Int)) = (P : Int) := if_neg (by omega)
  clear ve thin t1 t3 t4 t5 t6 sS gap lB lA' lR lR1 lU lU1 up sB uB bB lA tw K y1 y2 y3 u1 u2 u3 g1 l0 lh l1 l2 p1 p2' p3 r1 r2 r3 rB lp lm lm1 lm2 lm3 P8 e2 hm h0 h64 zn hpI nx
  rw [er] at nm io zr ng fp fr'
  rw [show ((w : Nat) : Int) = (P : Int) + 128 by omega] at fp fr' fe fb m1 m2 ft
  rw [show ((P + 2 : Nat) : Int) = (P : Int) + 2 from rfl] at ft
  generalize mkRat (m : Int) (2 ^ w) = q1 at *
  generalize mkRat ((m + 1 : Nat) : Int) (2 ^ w) = q2 at *
  generalize A * R1 / 2 ^ w * m / 2 ^ w = S1 at *
  generalize (B * R2 / 2 ^ w + 1) * (m + 1 + 1) / 2 ^ w + 1 = S2 at *
  generalize A * R1 / 2 ^ w = U1 at *
  generalize B * R2 / 2 ^ w + 1 = U2 at *
  generalize m + 1 + 1 = m2' at *
  generalize -x = nx at *
  obtain ⟨s0, n0, d0, rfl, -⟩ := hv
  refine Go.Ev.Fn.intro (fn := Tryz.f16) (body := (Tryz.f16).body.get!) (by kernel_rfl) (by kernel_rfl) (by kernel_rfl) (fun _ => rfl) (Nat.le_of_ble_eq_true (by kernel_rfl)) ?_; unfold Tryz.f16; simp only [Option.get!_some]
  repeat (first | (simp only [go_sem, Nat.reduceEqDiff, Nat.reduceAdd, Nat.reduceSub, Nat.reduceMul, Nat.reduceLeDiff, Nat.reduceLT, reduceIte, reduceCtorEq, Nat.succ_ne_zero, elemsC, Int.reduceToNat, Nat.reducePow, x1, x2, Bool.not_false]) | (simp (disch := (first | omega | (simp only [AL, List.length_map]; omega))) only [AR, AL, ifT, ifF, take_all, List.length_cons, List.length_nil, Int.reduceToNat, Int.reducePow, Nat.reducePow, x1, x2, Bool.not_false]) | (refine wk_intro (by kernel_rfl) ?_) | (refine vp_draw (id := 3) (l := []) (by kernel_rfl) ?_) | (refine vp_draw (id := 7) (l := []) (by kernel_rfl) ?_) | (refine vp_draw (id := 8) (l := []) (by kernel_rfl) ?_) | (refine vf_of (by first | exact nm | exact io | exact zr | exact ng | exact fe | exact fp | exact fr' | exact m1 | exact fb | exact m2 | exact ft) ?_))
theorem incg_Qbad {nI : Int} (hv : RatA v x 7) (h : Go.Ev.Fn CX 16 [.int .i64 nI, v, .int .i64 pI] (.tup [ballR 0 0, .bool false])) : Go.Ev.Fn CX 20 [.int .i64 nI, v, .int .i64 pI] (.tup [ballR 0 0, .bool false]) := by
  obtain ⟨s0, n0, d0, rfl, -⟩ := hv
  refine Go.Ev.Fn.intro (fn := Tryz.f20) (body := (Tryz.f20).body.get!) (by kernel_rfl) (by kernel_rfl) (by kernel_rfl) (fun _ => rfl) (Nat.le_of_ble_eq_true (by kernel_rfl)) ?_; unfold Tryz.f20; simp only [Option.get!_some]
  repeat (first | (simp only [go_sem, Nat.reduceEqDiff, Nat.reduceAdd, Nat.reduceSub, Nat.reduceMul, Nat.reduceLeDiff, Nat.reduceLT, reduceIte, reduceCtorEq, Nat.succ_ne_zero, elemsC, Int.reduceToNat, Nat.reducePow, Bool.not_false]) | (simp (disch := (first | omega | (simp only [AL, List.length_map]; omega))) only [AR, AL, ifT, ifF, take_all, List.length_cons, List.length_nil, Int.reduceToNat, Int.reducePow, Nat.reducePow, Bool.not_false]) | (refine wk_intro (by kernel_rfl) ?_) | (refine vp_draw (id := 4) (l := []) (by kernel_rfl) ?_) | (refine vf_of (by first | exact h) ?_))
theorem incg_Q {nI : Int} {l h : Rat} (hv : RatA v x 7) (zl : szR l 400) (zh : szR h 400) (f : Go.Ev.Fn CX 16 [.int .i64 nI, v, .int .i64 pI] (.tup [ballR l h, .bool true])) : Go.Ev.Fn CX 20 [.int .i64 nI, v, .int .i64 pI] (.tup [ballR (1 - h) (1 - l), .bool true]) := by
  have i1 := rat_Int 1 (by omega)
  have o := ball_Of (RatA_rv (int_szR (n := 1) (by omega))) (by omega)
  have z1 : szR ((1 : Int) : Rat) 400 := szR_mono (int_szR (n := 1) (by omega)) (by omega)
  have b := ball_Sub (L := 400) z1 z1 zl zh (by omega) (by omega)
  rw [show ((1 : Int) : Rat) = 1 from rfl] at i1 o b
  generalize 1 - h = y1 at *
  generalize 1 - l = y2 at *
  obtain ⟨s0, n0, d0, rfl, -⟩ := hv
  refine Go.Ev.Fn.intro (fn := Tryz.f20) (body := (Tryz.f20).body.get!) (by kernel_rfl) (by kernel_rfl) (by kernel_rfl) (fun _ => rfl) (Nat.le_of_ble_eq_true (by kernel_rfl)) ?_; unfold Tryz.f20; simp only [Option.get!_some]
  repeat (first | (simp only [go_sem, Nat.reduceEqDiff, Nat.reduceAdd, Nat.reduceSub, Nat.reduceMul, Nat.reduceLeDiff, Nat.reduceLT, reduceIte, reduceCtorEq, Nat.succ_ne_zero, elemsC, Int.reduceToNat, Nat.reducePow, Bool.not_true]) | (simp (disch := (first | omega | (simp only [AL, List.length_map]; omega))) only [AR, AL, ifT, ifF, take_all, List.length_cons, List.length_nil, Int.reduceToNat, Int.reducePow, Nat.reducePow, Bool.not_true]) | (refine wk_intro (by kernel_rfl) ?_) | (refine vp_draw (id := 4) (l := []) (by kernel_rfl) ?_) | (refine vf_of (by first | exact f | exact i1 | exact o | exact b) ?_))
end
end Go.Proofs.YtemnjalaincijaaGreat
namespace Go.Proofs.YtemnjalaincijaaGreat
open Go.Ev
theorem enc_oftenN {w a b : Nat} {q : Rat} (h : Enc w a b q) : Enc w (a * 2) (b * 2) (q * 2) := by
  obtain ⟨h1, h2⟩ := h
  unfold Enc
  rw [Ex.castmul, Ex.castmul, show ((2 : Nat) : Rat) = 2 from rfl]
  constructor <;> grind
theorem two_szR : szR 2 1 := ⟨lim_len_lt (by decide +kernel), lim_len_lt (by decide +kernel)⟩
theorem rt_encB {lo hi W : Nat} (h1 : (lo : Rat) ≤ SQ * SQ * p2 W) (h2 : SQ * SQ * p2 W ≤ (hi : Rat)) : Enc W (rtN (lo * 2 ^ W)) (rtN (hi * 2 ^ W) + 1) SQ := by
  have P := p2_pos W
  have e : (SQ * p2 W) * (SQ * p2 W) = SQ * SQ * p2 W * p2 W := by grind
  have s0 : 0 ≤ SQ * p2 W := Rat.mul_nonneg (by have := SQ_one; grind) (by grind)
  have g1 := Ex.castle (rtN_le (lo * 2 ^ W))
  have g2 := Ex.castle (Nat.le_of_lt (lt_rtN (hi * 2 ^ W)))
  rw [Ex.castmul, Ex.castmul] at g1 g2
  refine ⟨sq_mono (nat_nonneg _) s0 ?_, sq_mono s0 (nat_nonneg _) ?_⟩
  · rw [e]
    exact Rat.le_trans g1 (Rat.mul_le_mul_of_nonneg_right h1 (by grind))
  · rw [e]
    exact Rat.le_trans (Rat.mul_le_mul_of_nonneg_right h2 (by grind)) g2
section
variable {v : SV} {x : Rat} {w n : Nat}
set_option maxHeartbeats 1000000 in
theorem ref11_row (hv : RatA v x 7) (h0 : 0 ≤ x) (h64 : x ≤ 64) (hn : 1 ≤ n) (hn2 : n ≤ 30) (hw0 : 64 ≤ w) (hw : w ≤ 900) :
    ∃ A B : Nat, Go.Ev.Fn CX 133 [.int .i64 (n : Int), v, .int .i64 (w : Int)] (ivN A B) ∧ A ≤ B ∧ (lim B).length ≤ 100 ∧ ∃ s0, ∀ L, s0 ≤ L → Enc w A B (sk (x * 2) (n + 2) L) := by
  have zx := szR_of hv (by omega)
  have z2 := szR_mul zx two_szR (by omega)
  have y0 : 0 ≤ x * 2 := by grind
  have i2 := ref2_Int 2 (by omega)
  have mu := ref2_Mul hv (RatA_rv (int_szR (n := 2) (by omega))) (by omega) (by omega) (by omega)
  rw [show ((2 : Int) : Rat) = 2 from rfl] at i2 mu
  have nb := ref4_NumN (w := w) (RatA_rv z2) (by omega) (by omega) (by omega) y0
  have n1 := ref4_NumN (w := w) (RatA_rv (one_szR')) (by omega) (by omega) (by omega) (show (0 : Rat) ≤ 1 by decide)
  have u1 : unN 1 w = 2 ^ w := by show 1 * 2 ^ w / 1 = _; rw [Nat.one_mul, Nat.div_one]
  have u2 : upN 1 w = 2 ^ w := by show cdv (1 * 2 ^ w) 1 = _; unfold cdv; rw [Nat.one_mul, Nat.div_one]; omega
  rw [u1, u2] at n1
  have i1 := ref2_Int 1 (by omega)
  rw [show ((1 : Int) : Rat) = 1 from rfl] at i1
  have en := num_enc y0 w
  have y12 := un_up (q := x * 2) w
  have yT : upN (x * 2) w ≤ 2 ^ w * 128 := upN_le (n := 128) (m := 1) y0 (by
    rw [show ((128 : Nat) : Rat) = 128 from rfl, show ((1 : Nat) : Rat) = 1 from rfl]; grind) (by omega) (by omega)
  have P8 : 2 ^ 8 ≤ 2 ^ w := Nat.pow_le_pow_right (by omega) (by omega)
  have ok := dInv_0 w (n + 2)
  obtain ⟨F, hF⟩ : ∃ F : Nat, F = 2100 := ⟨_, rfl⟩
  obtain ⟨A, B, hr, hAB, hB⟩ := dRow_end (y := x * 2) (k0 := n + 2) yT y12 (by omega) (by grind) (by omega) (by omega) 127 F 0 (n + 2) _ _ _ _ ok (by omega) (by omega) (by omega)
  have e7 : 2 ^ (w + 8) = 2 ^ w * 256 := Nat.pow_add _ _ _
  have lB := lim_len_pw (n := B) (w := w + 909) (Nat.lt_of_le_of_lt hB (Nat.pow_lt_pow_right (by omega) (by omega)))
  have ly2 := lim_len_pw (n := upN (x * 2) w) (w := w + 8) (by omega)
  refine ⟨A, B, ?_, hAB, by omega, dRow_enc (by omega) en F 0 _ _ _ _ A B hr sq_one (by show Enc w _ _ (0 + 1); rw [Rat.zero_add]; exact sq_one)⟩
  have lens := fun (i k t1 t2 s1 s2 : Nat) (hi : i ≤ F) (h : dInv w (n + 2) i k t1 t2 s1 s2) => (show (lim t1).length ≤ 100 ∧ (lim t2).length ≤ 100 ∧ (lim s1).length ≤ 100 ∧ (lim s2).length ≤ 100 ∧ 8 ≤ s1 from by
    obtain ⟨q1, q2, q3, q4, q5, q6⟩ := h
    have up : 2 ^ (w + 7 * min i 128) < 2 ^ (w + 897) := Nat.pow_lt_pow_right (by omega) (by omega)
    have a := lim_len_pw (n := t2) (w := w + 897) (by omega)
    have b := lim_len_mono q2
    have s : (i + 1) * 2 ^ (w + 896) < 2 ^ (w + 909) := by
      rw [show w + 909 = 13 + (w + 896) by omega, Nat.pow_add 2 13]
      exact Nat.mul_lt_mul_of_pos_right (by omega) (Nat.pow_pos (by omega))
    have c := lim_len_pw (n := s2) (w := w + 909) (by omega)
    have d := lim_len_mono q5
    exact ⟨by omega, by omega, by omega, by omega, by omega⟩)
  have step := fun (i k t1 t2 s1 s2 : Nat) (h : dInv w (n + 2) i k t1 t2 s1 s2) => dInv_step yT y12 (show 1 ≤ n + 2 by omega) h
  have w2 := ref4_Whole 2 (by omega)
  rw [show (2 : Int) = ((2 : Nat) : Int) from rfl, intN_eq] at w2
  have l2 : (lim 2).length ≤ 1 := lim_len_one (by decide)
  have j4 := ref2_Int 4 (by omega)
  have m4 := ref2_Mul hv (RatA_rv (int_szR (n := 4) (by omega))) (by omega) (by omega) (by omega)
  have zm := szR_mul zx (int_szR (n := 4) (by omega)) (by omega)
  have e4 : x * ((4 : Int) : Rat) = x * 2 + x * 2 := by rw [show ((4 : Int) : Rat) = 4 from rfl]; exact dbl_four x
  rw [e4] at m4 zm
  obtain ⟨W1, hW1⟩ : ∃ W1 : Nat, W1 = 2 ^ w := ⟨_, rfl⟩
  rw [← hW1] at n1 ok hr
  have rnd : ∀ (k t1 t2 : Nat), 0 < k → k < 10000 → t1 ≤ t2 → (lim t2).length ≤ 100 → Go.Ev.Fn CX 109 [ivN t1 t2, ivN (unN (x * 2) w) (upN (x * 2) w), .int .i64 (w : Int)] (ivN (t1 * unN (x * 2) w / 2 ^ w) (cdv (t2 * upN (x * 2) w) (2 ^ w))) ∧
      Go.Ev.Fn CX 184 [ivN (t1 * unN (x * 2) w / 2 ^ w) (cdv (t2 * upN (x * 2) w) (2 ^ w)), .int .i64 (k : Int)] (ivN (t1 * unN (x * 2) w / 2 ^ w / k) (cdv (cdv (t2 * upN (x * 2) w) (2 ^ w)) k)) := by
    intro k t1 t2 hk hk2 ht lt
    have P : 0 < 2 ^ w := Nat.pow_pos (by omega)
    have z := lim_len_mul (a := t2) (b := upN (x * 2) w)
    have z2 := lim_len_mono (cdv_self (t2 * upN (x * 2) w) P)
    have v12 : t1 * unN (x * 2) w / 2 ^ w ≤ cdv (t2 * upN (x * 2) w) (2 ^ w) := div_le_cdv P (Nat.mul_le_mul ht y12)
    have z3 := lim_len_mono v12
    exact ⟨ref4_ProdN ht y12 (by omega) (by omega) (by omega) (by omega), ref4_ByN (by omega) (by omega) hk (by omega)⟩
  clear u1 u2 en hAB hB lB e7 P8 yT
  generalize unN (x * 2) w = y1 at *
  generalize upN (x * 2) w = y2 at *
  generalize hy : x * 2 = y at *
  obtain ⟨s0, n0, d0, rfl, -⟩ := hv
  refine Go.Ev.Fn.intro (fn := Tryz.f133) (body := (Tryz.f133).body.get!) (by kernel_rfl) (by kernel_rfl) (by kernel_rfl) (fun _ => rfl) (Nat.le_of_ble_eq_true (by kernel_rfl)) ?_; unfold Tryz.f133; simp only [Option.get!_some]
  repeat (first | (simp only [go_sem, Nat.reduceEqDiff, Nat.reduceAdd, Nat.reduceSub, Nat.reduceMul, Nat.reduceLeDiff, Nat.reduceLT, reduceIte, reduceCtorEq, Nat.succ_ne_zero, elemsC, Int.reduceToNat, Nat.reducePow]) | (simp (disch := (first | omega | (simp only [AL, List.length_map]; omega))) only [AR, AL, ifT, ifF, take_all, List.length_cons, List.length_nil, Int.reduceToNat, Int.reducePow, Nat.reducePow]) | (refine wk_intro (by kernel_rfl) ?_) | (refine vp_draw (id := 1) (l := []) (by kernel_rfl) ?_) | (refine vp_draw (id := 3) (l := []) (by kernel_rfl) ?_) | (refine vp_draw (id := 8) (l := []) (by kernel_rfl) ?_) | (refine vf_of (by first | exact i2 | exact mu | exact nb | exact i1 | exact n1) ?_))
  refine vp_loop_inv (fun s => s.tmp 0 = .sv (.int .i64 (n : Int)) ∧ s.tmp 2 = .sv (.int .i64 (w : Int)) ∧ s.tmp 4 = .ptr 4 0 0 ∧ s.obj 4 0 = some [.bool s0, natV n0, natV d0] ∧ s.tmp 6 = .ptr 6 0 0 ∧ s.obj 6 0 = some [.bool false, .sl 0 [], .bool false, .sl 0 []] ∧
      s.tmp 7 = .ptr 7 0 0 ∧ s.obj 7 0 = some [.bool false, natV (lim y1), .bool false, natV (lim y2)] ∧ s.tmp 9 = .ptr 9 0 0 ∧ s.tmp 10 = .ptr 10 0 0 ∧
      ∃ f i t1 t2 s1 s2 : Nat, s.tmp 11 = .sv (.int .i64 ((i + 1 : Nat) : Int)) ∧ f + i = F ∧ dRow w y1 y2 y f (n + 2 + 2 * i) t1 t2 s1 s2 = some (A, B) ∧ s.obj 9 0 = some [.bool false, natV (lim s1), .bool false, natV (lim s2)] ∧ s.obj 10 0 = some [.bool false, natV (lim t1), .bool false, natV (lim t2)] ∧ dInv w (n + 2) i (n + 2 + 2 * i) t1 t2 s1 s2)
    (fun s => match s.tmp 11 with | .sv (.int _ i) => F + 2 - i.toNat | _ => 0) ⟨rfl, rfl, rfl, rfl, rfl, rfl, rfl, rfl, rfl, rfl, F, 0, _, _, _, _, rfl, by omega, hr, rfl, rfl, ok⟩ ?_
  rintro s ⟨i0, i2', i4, o4, i6, o6, i7, o7, i9, i10, f, i, t1, t2, s1, s2, i11, hfi, hgo, o9, o10, hok⟩
  obtain ⟨lt1, lt2, la1, la2, -⟩ := lens i _ t1 t2 s1 s2 (by omega) hok
  have st := step i _ t1 t2 s1 s2 hok
  cases f with
  | zero => simp only [dRow] at hgo; cases hgo
  | succ f =>
    obtain ⟨lu1, lu2, lb1, lb2, ge8⟩ := lens (i + 1) (n + 2 + 2 * i + 2) _ _ _ _ (by omega) st
    obtain ⟨pr, by1⟩ := rnd (n + 2 + 2 * i) t1 t2 (by omega) (by omega) hok.2.1 lt2
    have u12 := st.2.1
    rw [dRow] at hgo
    generalize t1 * y1 / 2 ^ w / (n + 2 + 2 * i) = u1 at *
    generalize cdv (cdv (t2 * y2) (2 ^ w)) (n + 2 + 2 * i) = u2 at *
    generalize t1 * y1 / 2 ^ w = v1 at *
    generalize cdv (t2 * y2) (2 ^ w) = v2' at *
    have sm := ref4_SumNN (a := s1) (b := s2) (c := u1) (d := u2) (by omega) (by omega) (by omega) (by omega)
    have mo := ref4_MostN (a := u1) (b := u2) u12 (by omega)
    have cc := ref4_CmpN (a := u2) (b := 2) (by omega) (by omega)
    have ec : decide (cmpZ ((u2 : Nat) : Int) ((2 : Nat) : Int) ≤ 0) = decide (u2 ≤ 2) := by rw [cmpZ_le]; exact decide_eq_decide.2 (by omega)
    generalize cmpZ ((u2 : Nat) : Int) ((2 : Nat) : Int) = z at *
    have j2 := ref2_Int ((n + 2 + 2 * i + 2 : Nat) : Int) (by omega)
    have cm := ref2_Cmp (RatA_rv zm) (RatA_rv (int_szR (n := ((n + 2 + 2 * i + 2 : Nat) : Int)) (by omega))) (by omega) (by omega) (by omega)
    have ex : decide (cmpR (y + y) (((n + 2 + 2 * i + 2 : Nat) : Int) : Rat) ≤ 0) = decide (y + y ≤ ((n + 2 + 2 * i + 2 : Nat) : Rat)) := cmpR_le
    generalize cmpR (y + y) (((n + 2 + 2 * i + 2 : Nat) : Int) : Rat) = zc at *
    have wd := ref4_WideN (a := s1 + u1) (b := s2 + u2) (n := 8) (by omega) (by omega) ge8 (by omega)
    generalize hNI : ((n + 2 + 2 * i + 2 : Nat) : Int) = NI at *
    generalize hNR : ((n + 2 + 2 * i + 2 : Nat) : Rat) = NR at *
    generalize (NI : Rat) = NIR at *
    rw [← hNI, show ((n + 2 + 2 * i + 2 : Nat) : Int) = (n : Int) + 2 * ((i : Int) + 1) + 2 by omega] at j2
    rw [show ((n + 2 + 2 * i : Nat) : Int) = (n : Int) + 2 * ((i : Int) + 1) by omega] at by1
    rw [show ((i + 1 : Nat) : Int) = (i : Int) + 1 by omega] at i11
    generalize y + y = yy at *
    clear lens step rnd hr hy
    by_cases hu : u2 ≤ 2
    · rw [decide_eq_true hu] at ec
      by_cases hx : yy ≤ NR
      · rw [decide_eq_true hx] at ex
        rw [if_pos ⟨hu, hx⟩] at hgo
        simp only [Option.some.injEq, Prod.mk.injEq] at hgo
        rw [hgo.1, hgo.2] at wd
        clear hgo st hok
        repeat (first | (simp only [go_sem, Nat.reduceEqDiff, Nat.reduceAdd, Nat.reduceSub, Nat.reduceMul, Nat.reduceLeDiff, Nat.reduceLT, reduceIte, reduceCtorEq, Nat.succ_ne_zero, elemsC, Int.reduceToNat, Nat.reducePow, i0, i2', i4, o4, i6, o6, i7, o7, i9, i10, i11, o9, o10, ec, ex]) | (simp (disch := (first | omega | (simp only [AL, List.length_map]; omega))) only [AR, AL, ifT, ifF, take_all, List.length_cons, List.length_nil, Int.reduceToNat, Int.reducePow, Nat.reducePow, i0, i2', i4, o4, i6, o6, i7, o7, i9, i10, i11, o9, o10, ec, ex]) | (refine wk_intro (by kernel_rfl) ?_) | (refine vp_draw (id := 1) (l := []) (by kernel_rfl) ?_) | (refine vp_draw (id := 3) (l := []) (by kernel_rfl) ?_) | (refine vp_draw (id := 8) (l := []) (by kernel_rfl) ?_) | (refine vf_of (by first | exact pr | exact by1 | exact sm | exact mo | exact w2 | exact cc | exact j4 | exact m4 | exact j2 | exact cm | exact wd) ?_))
      · rw [decide_eq_false hx] at ex
        rw [if_neg (fun h => hx h.2)] at hgo
        repeat (first | (simp only [go_sem, Nat.reduceEqDiff, Nat.reduceAdd, Nat.reduceSub, Nat.reduceMul, Nat.reduceLeDiff, Nat.reduceLT, reduceIte, reduceCtorEq, Nat.succ_ne_zero, elemsC, Int.reduceToNat, Nat.reducePow, i0, i2', i4, o4, i6, o6, i7, o7, i9, i10, i11, o9, o10, ec, ex]) | (simp (disch := (first | omega | (simp only [AL, List.length_map]; omega))) only [AR, AL, ifT, ifF, take_all, List.length_cons, List.length_nil, Int.reduceToNat, Int.reducePow, Nat.reducePow, i0, i2', i4, o4, i6, o6, i7, o7, i9, i10, i11, o9, o10, ec, ex]) | (refine wk_intro (by kernel_rfl) ?_) | (refine vp_draw (id := 1) (l := []) (by kernel_rfl) ?_) | (refine vp_draw (id := 3) (l := []) (by kernel_rfl) ?_) | (refine vp_draw (id := 8) (l := []) (by kernel_rfl) ?_) | (refine vf_of (by first | exact pr | exact by1 | exact sm | exact mo | exact w2 | exact cc | exact j4 | exact m4 | exact j2 | exact cm) ?_))
        exact ⟨⟨f, i + 1, u1, u2, s1 + u1, s2 + u2, by first | rfl | (congr 2; omega), by omega, by rw [show n + 2 + 2 * (i + 1) = n + 2 + 2 * i + 2 by omega]; exact hgo, rfl, rfl, by rw [show n + 2 + 2 * (i + 1) = n + 2 + 2 * i + 2 by omega]; exact st⟩, by omega⟩
    · rw [decide_eq_false hu] at ec
      rw [if_neg (fun h => hu h.1)] at hgo
      repeat (first | (simp only [go_sem, Nat.reduceEqDiff, Nat.reduceAdd, Nat.reduceSub, Nat.reduceMul, Nat.reduceLeDiff, Nat.reduceLT, reduceIte, reduceCtorEq, Nat.succ_ne_zero, elemsC, Int.reduceToNat, Nat.reducePow, i0, i2', i4, o4, i6, o6, i7, o7, i9, i10, i11, o9, o10, ec]) | (simp (disch := (first | omega | (simp only [AL, List.length_map]; omega))) only [AR, AL, ifT, ifF, take_all, List.length_cons, List.length_nil, Int.reduceToNat, Int.reducePow, Nat.reducePow, i0, i2', i4, o4, i6, o6, i7, o7, i9, i10, i11, o9, o10, ec]) | (refine wk_intro (by kernel_rfl) ?_) | (refine vp_draw (id := 1) (l := []) (by kernel_rfl) ?_) | (refine vp_draw (id := 3) (l := []) (by kernel_rfl) ?_) | (refine vp_draw (id := 8) (l := []) (by kernel_rfl) ?_) | (refine vf_of (by first | exact pr | exact by1 | exact sm | exact mo | exact w2 | exact cc) ?_))
      exact ⟨⟨f, i + 1, u1, u2, s1 + u1, s2 + u2, by first | rfl | (congr 2; omega), by omega, by rw [show n + 2 + 2 * (i + 1) = n + 2 + 2 * i + 2 by omega]; exact hgo, rfl, rfl, by rw [show n + 2 + 2 * (i + 1) = n + 2 + 2 * i + 2 by omega]; exact st⟩, by omega⟩
end
end Go.Proofs.YtemnjalaincijaaGreat
namespace Go.Proofs.YtemnjalaincijaaGreat
open Go.Ev
section
variable {x : Rat} {A B w : Nat}
end
end Go.Proofs.YtemnjalaincijaaGreat
namespace Go.Proofs.YtemnjalaincijaaGreat
open Go.Ev
def trm (x y : Rat) (n i : Nat) : Rat := ((cc (n - i) i : Nat) : Rat) * pwR x (n - i) * pwR y i
def sS (x y : Rat) (n : Nat) : Nat → Rat
  | 0 => 0
  | j + 1 => sS x y n j + trm x y n j
theorem cm (a b : Nat) : ((a * b : Nat) : Rat) = (a : Rat) * (b : Rat) := by exact_mod_cast rfl
section
variable {x y : Rat} {B : Nat}
end
end Go.Proofs.YtemnjalaincijaaGreat
namespace Go.Proofs.YtemnjalaincijaaGreat
open Go.Ev
section
variable {x y : Rat}
end
section
variable {x : Rat} {A B w : Nat}
end
end Go.Proofs.YtemnjalaincijaaGreat
namespace Go.Proofs.YtemnjalaincijaaGreat
open Go.Ev
theorem neg_num {x : Rat} : decide (x.num < 0) = decide (x < 0) := by
  have h := Rat.num_nonneg (q := x)
  refine decide_eq_decide.2 ⟨fun g => ?_, fun g => ?_⟩
  · have : ¬ 0 ≤ x := fun k => absurd (h.2 k) (by omega)
    grind
  · rcases Int.lt_or_le x.num 0 with k | k
    · exact k
    · exact absurd (h.1 k) (by grind)
section
variable {v : SV} {x : Rat} {A B p L : Nat}
theorem erv {x : Rat} (h : decide (x.num < 0) = false) : rv x = ratV false (lim x.num.natAbs) (lim x.den) := by show ratV (decide (x.num < 0)) _ _ = _; rw [h]
end
end Go.Proofs.YtemnjalaincijaaGreat
namespace Go.Proofs.YtemnjalaincijaaGreat
open Go.Ev
section
variable {v : SV} {x : Rat} {a b p L : Nat}
end
end Go.Proofs.YtemnjalaincijaaGreat
namespace Go.Proofs.YtemnjalaincijaaGreat
open Go.Ev
end Go.Proofs.YtemnjalaincijaaGreat
namespace Go.Proofs.YtemnjalaincijaaGreat
open Go.Ev
theorem ref10_Hold {p : Nat} (hp : p ≤ 200) : Go.Ev.Fn CX 67 [.int .i64 (p : Int)] (.int .i64 (p : Int)) := by
  have e1 : (if (0 : Int) > (p : Int) then (0 : Int) else (p : Int)) = (p : Int) := if_neg (by omega)
  have e2 : (if (200 : Int) < (p : Int) then (200 : Int) else (p : Int)) = (p : Int) := if_neg (by omega)
  refine Go.Ev.Fn.intro (fn := Tryz.f67) (body := (Tryz.f67).body.get!) (by kernel_rfl) (by kernel_rfl) (by kernel_rfl) (fun _ => rfl) (Nat.le_of_ble_eq_true (by kernel_rfl)) ?_; unfold Tryz.f67; simp only [Option.get!_some]
  repeat (first | (simp only [go_sem, Nat.reduceEqDiff, Nat.reduceAdd, Nat.reduceSub, Nat.reduceMul, Nat.reduceLeDiff, Nat.reduceLT, reduceIte, reduceCtorEq, Nat.succ_ne_zero, elemsC, Int.reduceToNat, Nat.reducePow, e1, e2]) | (simp (disch := (first | omega | (simp only [AL, List.length_map]; omega))) only [AR, AL, ifT, ifF, take_all, List.length_cons, List.length_nil, Int.reduceToNat, Int.reducePow, Nat.reducePow, e1, e2]) | (refine wk_intro (by kernel_rfl) ?_))
section
variable {v : SV} {x : Rat} {L a b p : Nat}
end
end Go.Proofs.YtemnjalaincijaaGreat
namespace Go.Proofs.YtemnjalaincijaaGreat
open Go.Ev
def fRow (w Y1 Y2 : Nat) : Nat → Nat → Nat → Nat → Nat × Nat
  | 0, _, a, b => (a, b)
  | f + 1, k, a, b => fRow w Y1 Y2 f (k + 2) (a * Y1 / 2 ^ w / k * 2) (cdv (cdv (b * Y2) (2 ^ w)) k * 2)
theorem fRow_enc {w Y1 Y2 k0 : Nat} {x c : Rat} (hk0 : 1 ≤ k0) (hx : Enc w Y1 Y2 x) : ∀ (f i a b : Nat), Enc w a b (c * tk (x * 2) k0 i) → Enc w (fRow w Y1 Y2 f (k0 + 2 * i) a b).1 (fRow w Y1 Y2 f (k0 + 2 * i) a b).2 (c * tk (x * 2) k0 (i + f))
  | 0, i, a, b, h => h
  | f + 1, i, a, b, h => by
    have e1 := enc_oftenN (enc_byN (n := 1) (m := k0 + 2 * i) (by omega) (enc_prodN h hx))
    rw [Nat.mul_one, Nat.mul_one] at e1
    have e2 : c * tk (x * 2) k0 i * x * ((1 : Nat) : Rat) / ((k0 + 2 * i : Nat) : Rat) * 2 = c * tk (x * 2) k0 (i + 1) := by
      show _ = c * (tk (x * 2) k0 i * (x * 2) * ((1 : Nat) : Rat) / ((k0 + 2 * i : Nat) : Rat))
      rw [Rat.div_def, Rat.div_def]; grind
    rw [e2] at e1
    have ih := fRow_enc hk0 hx f (i + 1) _ _ e1
    rw [show i + 1 + f = i + (f + 1) by omega] at ih
    exact ih
section
variable {v : SV} {x : Rat} {w n : Nat}
theorem front_step (hx : 0 ≤ x) (hw0 : 8 ≤ w) (hw : w ≤ 1000) (lY : (lim (upN x w)).length ≤ 40) : ∀ (k a b : Nat), 0 < k → k < 1000 → a ≤ b → (lim b).length ≤ 3000 → Go.Ev.Fn CX 109 [ivN a b, ivN (unN x w) (upN x w), .int .i64 (w : Int)] (ivN (a * unN x w / 2 ^ w) (cdv (b * upN x w) (2 ^ w))) ∧
    Go.Ev.Fn CX 184 [ivN (a * unN x w / 2 ^ w) (cdv (b * upN x w) (2 ^ w)), .int .i64 (k : Int)] (ivN (a * unN x w / 2 ^ w / k) (cdv (cdv (b * upN x w) (2 ^ w)) k)) ∧
    Go.Ev.Fn CX 103 [ivN (a * unN x w / 2 ^ w / k) (cdv (cdv (b * upN x w) (2 ^ w)) k), .int .i64 2] (ivN (a * unN x w / 2 ^ w / k * 2) (cdv (cdv (b * upN x w) (2 ^ w)) k * 2)) ∧
    a * unN x w / 2 ^ w / k * 2 ≤ cdv (cdv (b * upN x w) (2 ^ w)) k * 2 ∧ (lim (cdv (cdv (b * upN x w) (2 ^ w)) k * 2)).length ≤ (lim b).length + 41 := by
  intro k a b hk hk2 hab lb
  have P : 0 < 2 ^ w := Nat.pow_pos (by omega)
  have y12 := un_up (q := x) w
  have z := lim_len_mul (a := b) (b := upN x w)
  have z2 := lim_len_mono (cdv_self (b * upN x w) P)
  have v12 : a * unN x w / 2 ^ w ≤ cdv (b * upN x w) (2 ^ w) := div_le_cdv P (Nat.mul_le_mul hab y12)
  have z3 := lim_len_mono v12
  have w12 : a * unN x w / 2 ^ w / k ≤ cdv (cdv (b * upN x w) (2 ^ w)) k := div_le_cdv hk v12
  have z4 := lim_len_mono (cdv_self (cdv (b * upN x w) (2 ^ w)) hk)
  have z5 := lim_len_mono w12
  have z6 := lim_len_mul (a := cdv (cdv (b * upN x w) (2 ^ w)) k) (b := 2)
  have l2 : (lim 2).length ≤ 1 := lim_len_one (by decide)
  exact ⟨ref4_ProdN hab y12 (by omega) (by omega) (by omega) (by omega), ref4_ByN (by omega) (by omega) hk (by omega), ref4_OftenN (n := 2) (by omega) (by omega) (by omega), Nat.mul_le_mul_right _ w12, by omega⟩
set_option maxHeartbeats 1000000 in
theorem ref11_front (hv : RatA v x 7) (h0 : 0 ≤ x) (h64 : x ≤ 64) (hn : 1 ≤ n) (hn2 : n ≤ 30) (hw0 : 64 ≤ w) (hw : w ≤ 360) :
    ∃ A B : Nat, ∃ lo hi : Rat, Go.Ev.Fn CX 132 [.int .i64 (n : Int), v, .int .i64 (w : Int)] (ivN A B) ∧ A ≤ B ∧ (lim B).length ≤ 1000 ∧ 0 ≤ lo ∧ 0 ≤ hi ∧ lo * lo ≤ x ∧ x ≤ hi * hi ∧ ∀ s, lo ≤ s → s ≤ hi → Enc w A B (igC n s * tk (x * 2) (2 + n % 2) (n / 2)) := by
  have nb := ref4_NumN (w := w) hv (by omega) (by omega) (by omega) h0
  have n1 := ref4_NumN (w := w) (RatA_rv (one_szR')) (by omega) (by omega) (by omega) (show (0 : Rat) ≤ 1 by decide)
  have u1 : unN 1 w = 2 ^ w := by show 1 * 2 ^ w / 1 = _; rw [Nat.one_mul, Nat.div_one]
  have u2 : upN 1 w = 2 ^ w := by show cdv (1 * 2 ^ w) 1 = _; unfold cdv; rw [Nat.one_mul, Nat.div_one]; omega
  rw [u1, u2] at n1
  have i1 := ref2_Int 1 (by omega)
  rw [show ((1 : Int) : Rat) = 1 from rfl] at i1
  have en := num_enc h0 w
  have y12 := un_up (q := x) w
  have yT : upN x w ≤ 2 ^ w * 64 := upN_le (n := 64) (m := 1) h0 (by
    rw [show ((64 : Nat) : Rat) = 64 from rfl, show ((1 : Nat) : Rat) = 1 from rfl]; grind) (by omega) (by omega)
  have e6 : 2 ^ (w + 6) = 2 ^ w * 64 := Nat.pow_add _ _ _
  have e3 : 2 ^ (w + 3) = 2 ^ w * 8 := Nat.pow_add _ _ _
  have P : 2 ^ 8 ≤ 2 ^ w := Nat.pow_le_pow_right (by omega) (by omega)
  have lY := lim_len_p2 (n := upN x w) (w := w + 6) (by omega) (by omega)
  have step := front_step h0 (show 8 ≤ w by omega) (by omega) lY
  have rem : (n : Int).tmod 2 = ((n % 2 : Nat) : Int) := _root_.id rfl
  have l2 : (lim 2).length ≤ 1 := lim_len_one (by decide)
  obtain ⟨s1, s2, a0, a1, a2, a3, es⟩ := sqrt_pts h0 en
  by_cases hod : n % 2 = 1
  · obtain ⟨PL, PH, hpi, p1, p2', p3, p4, p5⟩ := iv_piB (W := w) (by omega) (by omega)
    have fp := ref8_PiIv (w := w) (by omega) hpi
    have lPH := lim_len_p2 (n := PH) p5 (by omega)
    have lPL := lim_len_mono p4
    have sq1 := ref4_SqrtN (a := unN x w) (b := upN x w) (w := w) (Nat.le_trans (lim_len_mono y12) (by omega)) (by omega) (by omega)
    have sq2 := ref4_SqrtN (a := PL) (b := PH) (w := w) (by omega) (by omega) (by omega)
    have q12 : rtN (unN x w * 2 ^ w) ≤ rtN (upN x w * 2 ^ w) + 1 := Nat.le_succ_of_le (rtN_mono (Nat.mul_le_mul_right _ y12))
    have r12 : rtN (PL * 2 ^ w) ≤ rtN (PH * 2 ^ w) + 1 := Nat.le_succ_of_le (rtN_mono (Nat.mul_le_mul_right _ p4))
    have rl : 2 ^ w ≤ rtN (PL * 2 ^ w) := by
      have h := rtN_mono (Nat.mul_le_mul_right (2 ^ w) p3)
      rw [← rtN_eq (a := 2 ^ w * 2 ^ w) (r := 2 ^ w) (Nat.le_refl _) (Nat.mul_lt_mul'' (by omega) (by omega))] at h
      exact h
    have big : ∀ m, m ≤ 2 ^ (w + 6) → (lim (rtN (m * 2 ^ w) + 1)).length ≤ 40 := by
      intro m hm
      have a : m * 2 ^ w ≤ 2 ^ (w + 6 + w) := by rw [Nat.pow_add _ (w + 6) w]; exact Nat.mul_le_mul_right _ hm
      have b := rtN_self (m * 2 ^ w)
      refine lim_len_p2 (w := w + 6 + w + 1) ?_ (by omega)
      rw [Nat.pow_succ]
      have : 0 < 2 ^ (w + 6 + w) := Nat.pow_pos (by omega)
      omega
    have lq := big _ (show upN x w ≤ 2 ^ (w + 6) by omega)
    have lr := big PH (Nat.le_trans p5 (Nat.pow_le_pow_right (by omega) (by omega)))
    have lq1 := lim_len_mono q12
    have lr1 := lim_len_mono r12
    have rp : 0 < rtN (PL * 2 ^ w) := by omega
    have of1 := ref4_OftenN (a := rtN (unN x w * 2 ^ w)) (b := rtN (upN x w * 2 ^ w) + 1) (n := 2) (by omega) (by omega) (by omega)
    have iv := ref4_InvN (a := rtN (PL * 2 ^ w)) (b := rtN (PH * 2 ^ w) + 1) (w := w) rp r12 (by omega) (by omega)
    have i12 : 2 ^ (2 * w) / (rtN (PH * 2 ^ w) + 1) ≤ cdv (2 ^ (2 * w)) (rtN (PL * 2 ^ w)) := Nat.le_trans (Nat.div_le_div_left r12 rp) (div_le_cdv rp (Nat.le_refl _))
    have li := lim_len_p2 (n := cdv (2 ^ (2 * w)) (rtN (PL * 2 ^ w))) (w := 2 * w) (cdv_self _ rp) (by omega)
    have lo := lim_len_mul (a := rtN (upN x w * 2 ^ w) + 1) (b := 2)
    have pr := ref4_ProdN (a := rtN (unN x w * 2 ^ w) * 2) (b := (rtN (upN x w * 2 ^ w) + 1) * 2) (c := 2 ^ (2 * w) / (rtN (PH * 2 ^ w) + 1)) (d := cdv (2 ^ (2 * w)) (rtN (PL * 2 ^ w))) (w := w) (Nat.mul_le_mul_right _ q12) i12 (by omega) (by omega) (by omega) (by omega)
    have S12 : rtN (unN x w * 2 ^ w) * 2 * (2 ^ (2 * w) / (rtN (PH * 2 ^ w) + 1)) / 2 ^ w ≤ cdv ((rtN (upN x w * 2 ^ w) + 1) * 2 * cdv (2 ^ (2 * w)) (rtN (PL * 2 ^ w))) (2 ^ w) := div_le_cdv (by omega) (Nat.mul_le_mul (Nat.mul_le_mul_right _ q12) i12)
    have lS := Nat.le_trans (lim_len_mono (cdv_self ((rtN (upN x w * 2 ^ w) + 1) * 2 * cdv (2 ^ (2 * w)) (rtN (PL * 2 ^ w))) (show 0 < 2 ^ w by omega))) lim_len_mul
    have st : ∀ s, s1 ≤ s → s ≤ s2 → Enc w (rtN (unN x w * 2 ^ w) * 2 * (2 ^ (2 * w) / (rtN (PH * 2 ^ w) + 1)) / 2 ^ w) (cdv ((rtN (upN x w * 2 ^ w) + 1) * 2 * cdv (2 ^ (2 * w)) (rtN (PL * 2 ^ w))) (2 ^ w)) (igC n s * tk (x * 2) 3 0) := by
      intro s g1 g2
      have e := enc_prodN (enc_oftenN (es s g1 g2)) (enc_invN rp (rt_encB p1 p2'))
      rw [show igC n s = s * (1 / SQ) * 2 from if_pos hod]
      show Enc w _ _ (_ * 1)
      rw [Rat.mul_one, show s * (1 / SQ) * 2 = s * 2 * (1 / SQ) by grind]
      exact e
    clear es p1 p2' p3 p4 p5 big rl e3 e6 en
    generalize 2 ^ (2 * w) / (rtN (PH * 2 ^ w) + 1) = I1 at *
    generalize cdv (2 ^ (2 * w)) (rtN (PL * 2 ^ w)) = I2 at *
    generalize rtN (PH * 2 ^ w) + 1 = r2 at *
    generalize rtN (PL * 2 ^ w) = r1 at *
    generalize rtN (unN x w * 2 ^ w) = q1 at *
    generalize rtN (upN x w * 2 ^ w) + 1 = q2 at *
    generalize q1 * 2 * I1 / 2 ^ w = S1 at *
    generalize cdv (q2 * 2 * I2) (2 ^ w) = S2 at *
    have pe : ∀ s, s1 ≤ s → s ≤ s2 → Enc w (fRow w (unN x w) (upN x w) (n / 2) 3 S1 S2).1 (fRow w (unN x w) (upN x w) (n / 2) 3 S1 S2).2 (igC n s * tk (x * 2) (2 + n % 2) (n / 2)) := by
      intro s g1 g2
      have h := fRow_enc (c := igC n s) (k0 := 3) (by omega) (num_enc h0 w) (n / 2) 0 _ _ (st s g1 g2)
      rw [Nat.zero_add] at h
      rw [show 2 + n % 2 = 3 by omega]
      exact h
    have fin : ∀ (f k a b : Nat), 0 < k → k + 2 * f < 1000 → a ≤ b → (lim b).length + 41 * f ≤ 3000 → (fRow w (unN x w) (upN x w) f k a b).1 ≤ (fRow w (unN x w) (upN x w) f k a b).2 ∧ (lim (fRow w (unN x w) (upN x w) f k a b).2).length ≤ (lim b).length + 41 * f := by
      intro f
      induction f with
      | zero => intro k a b h1 h2 h3 h4; exact ⟨h3, Nat.le_add_right _ _⟩
      | succ f ih =>
        intro k a b h1 h2 h3 h4
        obtain ⟨-, -, -, t1, t2⟩ := step k a b h1 (by omega) h3 (by omega)
        obtain ⟨r1, r2⟩ := ih (k + 2) _ _ (by omega) (by omega) t1 (by omega)
        exact ⟨r1, Nat.le_trans r2 (by omega)⟩
    obtain ⟨F1, F2⟩ := fin (n / 2) 3 S1 S2 (by omega) (by omega) S12 (by omega)
    obtain ⟨A, B, hAB⟩ : ∃ A B : Nat, fRow w (unN x w) (upN x w) (n / 2) 3 S1 S2 = (A, B) := ⟨_, _, rfl⟩
    rw [hAB] at F1 F2 pe
    refine ⟨A, B, s1, s2, ?_, F1, Nat.le_trans F2 (by omega), a0, a2, a1, a3, pe⟩
    rw [hod] at rem
    clear pe st fin F1 F2 a0 a1 a2 a3 yT
    have lS2 : (lim S2).length ≤ 200 := by omega
    clear lS
    generalize unN x w = y1 at *
    generalize upN x w = y2 at *
    obtain ⟨W1, hW1⟩ : ∃ W1 : Nat, W1 = 2 ^ w := ⟨_, rfl⟩
    rw [← hW1] at n1
    obtain ⟨s0, n0, d0, rfl, -⟩ := hv
    refine Go.Ev.Fn.intro (fn := Tryz.f132) (body := (Tryz.f132).body.get!) (by kernel_rfl) (by kernel_rfl) (by kernel_rfl) (fun _ => rfl) (Nat.le_of_ble_eq_true (by kernel_rfl)) ?_; unfold Tryz.f132; simp only [Option.get!_some]
    repeat (first | (simp only [go_sem, Nat.reduceEqDiff, Nat.reduceAdd, Nat.reduceSub, Nat.reduceMul, Nat.reduceLeDiff, Nat.reduceLT, reduceIte, reduceCtorEq, Nat.succ_ne_zero, elemsC, Int.reduceToNat, Nat.reducePow, rem]) | (simp (disch := (first | omega | (simp only [AL, List.length_map]; omega))) only [AR, AL, ifT, ifF, take_all, List.length_cons, List.length_nil, Int.reduceToNat, Int.reducePow, Nat.reducePow, rem]) | (refine wk_intro (by kernel_rfl) ?_) | (refine vp_draw (id := 5) (l := []) (by kernel_rfl) ?_) | (refine vf_of (by first | exact nb | exact i1 | exact n1 | exact sq1 | exact of1 | exact fp | exact sq2 | exact iv | exact pr) ?_))
    refine vp_loop_inv (fun s => s.tmp 0 = .sv (.int .i64 (n : Int)) ∧ s.tmp 2 = .sv (.int .i64 (w : Int)) ∧ s.tmp 6 = .ptr 6 0 0 ∧ s.obj 6 0 = some [.bool false, .sl 0 [], .bool false, .sl 0 []] ∧ s.tmp 7 = .ptr 7 0 0 ∧ s.obj 7 0 = some [.bool false, natV (lim y1), .bool false, natV (lim y2)] ∧ s.tmp 8 = .ptr 8 0 0 ∧
        ∃ f i a b : Nat, s.tmp 9 = .sv (.int .i64 ((3 + 2 * i : Nat) : Int)) ∧ f + i = n / 2 ∧ fRow w y1 y2 f (3 + 2 * i) a b = (A, B) ∧ s.obj 8 0 = some [.bool false, natV (lim a), .bool false, natV (lim b)] ∧ a ≤ b ∧ (lim b).length ≤ 200 + 41 * i)
      (fun s => match s.tmp 9 with | .sv (.int _ i) => 1000 - i.toNat | _ => 0) ⟨rfl, rfl, rfl, rfl, rfl, rfl, rfl, n / 2, 0, S1, S2, rfl, by omega, hAB, rfl, S12, by omega⟩ ?_
    rintro s ⟨i0, i2, i6, o6, i7, o7, i8, f, i, a, b, i9, hfi, hgo, o8, hab, hlb⟩
    cases f with
    | zero =>
      have hgo' : (a, b) = (A, B) := hgo
      simp only [Prod.mk.injEq] at hgo'
      obtain ⟨rfl, rfl⟩ := hgo'
      clear step hAB
      repeat (first | (simp only [go_sem, Nat.reduceEqDiff, Nat.reduceAdd, Nat.reduceSub, Nat.reduceMul, Nat.reduceLeDiff, Nat.reduceLT, reduceIte, reduceCtorEq, Nat.succ_ne_zero, elemsC, Int.reduceToNat, Nat.reducePow, i0, i2, i6, o6, i7, o7, i8, i9, o8]) | (simp (disch := (first | omega | (simp only [AL, List.length_map]; omega))) only [AR, AL, ifT, ifF, take_all, List.length_cons, List.length_nil, Int.reduceToNat, Int.reducePow, Nat.reducePow, i0, i2, i6, o6, i7, o7, i8, i9, o8]) | (refine wk_intro (by kernel_rfl) ?_) | (refine vp_draw (id := 5) (l := []) (by kernel_rfl) ?_))
    | succ f =>
      obtain ⟨pr2, by2, of2, t1, t2⟩ := step (3 + 2 * i) a b (by omega) (by omega) hab (by omega)
      have hgo' : fRow w y1 y2 f (3 + 2 * i + 2) (a * y1 / 2 ^ w / (3 + 2 * i) * 2) (cdv (cdv (b * y2) (2 ^ w)) (3 + 2 * i) * 2) = (A, B) := hgo
      clear step hAB hgo
      generalize a * y1 / 2 ^ w = v1 at *
      generalize cdv (b * y2) (2 ^ w) = v2' at *
      generalize v1 / (3 + 2 * i) = w1 at *
      generalize cdv v2' (3 + 2 * i) = w2 at *
      generalize w1 * 2 = x1 at *
      generalize w2 * 2 = x2 at *
      repeat (first | (simp only [go_sem, Nat.reduceEqDiff, Nat.reduceAdd, Nat.reduceSub, Nat.reduceMul, Nat.reduceLeDiff, Nat.reduceLT, reduceIte, reduceCtorEq, Nat.succ_ne_zero, elemsC, Int.reduceToNat, Nat.reducePow, i0, i2, i6, o6, i7, o7, i8, i9, o8]) | (simp (disch := (first | omega | (simp only [AL, List.length_map]; omega))) only [AR, AL, ifT, ifF, take_all, List.length_cons, List.length_nil, Int.reduceToNat, Int.reducePow, Nat.reducePow, i0, i2, i6, o6, i7, o7, i8, i9, o8]) | (refine wk_intro (by kernel_rfl) ?_) | (refine vp_draw (id := 5) (l := []) (by kernel_rfl) ?_) | (refine vf_of (by first | exact pr2 | exact by2 | exact of2) ?_))
      exact ⟨⟨f, i + 1, x1, x2, by first | rfl | (congr 2; omega), by omega, hgo', rfl, t1, by omega⟩, by omega⟩
  · have pe : ∀ s, s1 ≤ s → s ≤ s2 → Enc w (fRow w (unN x w) (upN x w) (n / 2) 2 (2 ^ w) (2 ^ w)).1 (fRow w (unN x w) (upN x w) (n / 2) 2 (2 ^ w) (2 ^ w)).2 (igC n s * tk (x * 2) (2 + n % 2) (n / 2)) := by
      intro s g1 g2
      have h := fRow_enc (c := igC n s) (k0 := 2) (by omega) (num_enc h0 w) (n / 2) 0 _ _ (by
        rw [show igC n s = 1 from if_neg hod]
        show Enc w _ _ (1 * 1)
        rw [Rat.mul_one]; exact sq_one)
      rw [Nat.zero_add] at h
      rw [show 2 + n % 2 = 2 by omega]
      exact h
    have fin : ∀ (f k a b : Nat), 0 < k → k + 2 * f < 1000 → a ≤ b → (lim b).length + 41 * f ≤ 3000 → (fRow w (unN x w) (upN x w) f k a b).1 ≤ (fRow w (unN x w) (upN x w) f k a b).2 ∧ (lim (fRow w (unN x w) (upN x w) f k a b).2).length ≤ (lim b).length + 41 * f := by
      intro f
      induction f with
      | zero => intro k a b h1 h2 h3 h4; exact ⟨h3, Nat.le_add_right _ _⟩
      | succ f ih =>
        intro k a b h1 h2 h3 h4
        obtain ⟨-, -, -, t1, t2⟩ := step k a b h1 (by omega) h3 (by omega)
        obtain ⟨r1, r2⟩ := ih (k + 2) _ _ (by omega) (by omega) t1 (by omega)
        exact ⟨r1, Nat.le_trans r2 (by omega)⟩
    have lS2 := lim_len_p2 (n := 2 ^ w) (w := w) (Nat.le_refl _) (by omega)
    obtain ⟨F1, F2⟩ := fin (n / 2) 2 (2 ^ w) (2 ^ w) (by omega) (by omega) (by omega) (by omega)
    obtain ⟨A, B, hAB⟩ : ∃ A B : Nat, fRow w (unN x w) (upN x w) (n / 2) 2 (2 ^ w) (2 ^ w) = (A, B) := ⟨_, _, rfl⟩
    rw [hAB] at F1 F2 pe
    refine ⟨A, B, s1, s2, ?_, F1, Nat.le_trans F2 (by omega), a0, a2, a1, a3, pe⟩
    rw [show n % 2 = 0 by omega] at rem
    clear pe fin F1 F2 a0 a1 a2 a3 yT es en
    generalize unN x w = y1 at *
    generalize upN x w = y2 at *
    obtain ⟨W1, hW1⟩ : ∃ W1 : Nat, W1 = 2 ^ w := ⟨_, rfl⟩
    rw [← hW1] at n1 hAB lS2
    obtain ⟨s0, n0, d0, rfl, -⟩ := hv
    refine Go.Ev.Fn.intro (fn := Tryz.f132) (body := (Tryz.f132).body.get!) (by kernel_rfl) (by kernel_rfl) (by kernel_rfl) (fun _ => rfl) (Nat.le_of_ble_eq_true (by kernel_rfl)) ?_; unfold Tryz.f132; simp only [Option.get!_some]
    repeat (first | (simp only [go_sem, Nat.reduceEqDiff, Nat.reduceAdd, Nat.reduceSub, Nat.reduceMul, Nat.reduceLeDiff, Nat.reduceLT, reduceIte, reduceCtorEq, Nat.succ_ne_zero, elemsC, Int.reduceToNat, Nat.reducePow, rem]) | (simp (disch := (first | omega | (simp only [AL, List.length_map]; omega))) only [AR, AL, ifT, ifF, take_all, List.length_cons, List.length_nil, Int.reduceToNat, Int.reducePow, Nat.reducePow, rem]) | (refine wk_intro (by kernel_rfl) ?_) | (refine vp_draw (id := 5) (l := []) (by kernel_rfl) ?_) | (refine vf_of (by first | exact nb | exact i1 | exact n1) ?_))
    refine vp_loop_inv (fun s => s.tmp 0 = .sv (.int .i64 (n : Int)) ∧ s.tmp 2 = .sv (.int .i64 (w : Int)) ∧ s.tmp 6 = .ptr 6 0 0 ∧ s.obj 6 0 = some [.bool false, .sl 0 [], .bool false, .sl 0 []] ∧ s.tmp 7 = .ptr 7 0 0 ∧ s.obj 7 0 = some [.bool false, natV (lim y1), .bool false, natV (lim y2)] ∧ s.tmp 8 = .ptr 8 0 0 ∧
        ∃ f i a b : Nat, s.tmp 9 = .sv (.int .i64 ((2 + 2 * i : Nat) : Int)) ∧ f + i = n / 2 ∧ fRow w y1 y2 f (2 + 2 * i) a b = (A, B) ∧ s.obj 8 0 = some [.bool false, natV (lim a), .bool false, natV (lim b)] ∧ a ≤ b ∧ (lim b).length ≤ 200 + 41 * i)
      (fun s => match s.tmp 9 with | .sv (.int _ i) => 1000 - i.toNat | _ => 0) ⟨rfl, rfl, rfl, rfl, rfl, rfl, rfl, n / 2, 0, W1, W1, rfl, by omega, hAB, rfl, by omega, by omega⟩ ?_
    rintro s ⟨i0, i2, i6, o6, i7, o7, i8, f, i, a, b, i9, hfi, hgo, o8, hab, hlb⟩
    cases f with
    | zero =>
      have hgo' : (a, b) = (A, B) := hgo
      simp only [Prod.mk.injEq] at hgo'
      obtain ⟨rfl, rfl⟩ := hgo'
      clear step hAB
      repeat (first | (simp only [go_sem, Nat.reduceEqDiff, Nat.reduceAdd, Nat.reduceSub, Nat.reduceMul, Nat.reduceLeDiff, Nat.reduceLT, reduceIte, reduceCtorEq, Nat.succ_ne_zero, elemsC, Int.reduceToNat, Nat.reducePow, i0, i2, i6, o6, i7, o7, i8, i9, o8]) | (simp (disch := (first | omega | (simp only [AL, List.length_map]; omega))) only [AR, AL, ifT, ifF, take_all, List.length_cons, List.length_nil, Int.reduceToNat, Int.reducePow, Nat.reducePow, i0, i2, i6, o6, i7, o7, i8, i9, o8]) | (refine wk_intro (by kernel_rfl) ?_) | (refine vp_draw (id := 5) (l := []) (by kernel_rfl) ?_))
    | succ f =>
      obtain ⟨pr2, by2, of2, t1, t2⟩ := step (2 + 2 * i) a b (by omega) (by omega) hab (by omega)
      have hgo' : fRow w y1 y2 f (2 + 2 * i + 2) (a * y1 / 2 ^ w / (2 + 2 * i) * 2) (cdv (cdv (b * y2) (2 ^ w)) (2 + 2 * i) * 2) = (A, B) := hgo
      clear step hAB hgo
      generalize a * y1 / 2 ^ w = v1 at *
      generalize cdv (b * y2) (2 ^ w) = v2' at *
      generalize v1 / (2 + 2 * i) = w1 at *
      generalize cdv v2' (2 + 2 * i) = w2 at *
      generalize w1 * 2 = x1 at *
      generalize w2 * 2 = x2 at *
      repeat (first | (simp only [go_sem, Nat.reduceEqDiff, Nat.reduceAdd, Nat.reduceSub, Nat.reduceMul, Nat.reduceLeDiff, Nat.reduceLT, reduceIte, reduceCtorEq, Nat.succ_ne_zero, elemsC, Int.reduceToNat, Nat.reducePow, i0, i2, i6, o6, i7, o7, i8, i9, o8]) | (simp (disch := (first | omega | (simp only [AL, List.length_map]; omega))) only [AR, AL, ifT, ifF, take_all, List.length_cons, List.length_nil, Int.reduceToNat, Int.reducePow, Nat.reducePow, i0, i2, i6, o6, i7, o7, i8, i9, o8]) | (refine wk_intro (by kernel_rfl) ?_) | (refine vp_draw (id := 5) (l := []) (by kernel_rfl) ?_) | (refine vf_of (by first | exact pr2 | exact by2 | exact of2) ?_))
      exact ⟨⟨f, i + 1, x1, x2, by first | rfl | (congr 2; omega), by omega, hgo', rfl, t1, by omega⟩, by omega⟩
end
end Go.Proofs.YtemnjalaincijaaGreat
namespace Go.Proofs.YtemnjalaincijaaGreat
open Go.Ev
theorem ref4_AddE {a b c d : Rat} {L M : Nat} (ha : szR a L) (hb : szR b L) (hc : szR c M) (hd : szR d M) (hL1 : 1 ≤ L) (hM1 : 1 ≤ M) (hL : L + M ≤ 100000) : Go.Ev.Fn CX 27 [ballR a b, ballR c d] (ballR (a + c) (b + d)) := by
  have s1 := ref2_Add (RatA_rv ha) (RatA_rv hc) hL1 hM1 (by omega)
  have s2 := ref2_Add (RatA_rv hb) (RatA_rv hd) hL1 hM1 (by omega)
  generalize a + c = x at *
  generalize b + d = y at *
  refine Go.Ev.Fn.intro (fn := Tryz.f27) (body := (Tryz.f27).body.get!) (by kernel_rfl) (by kernel_rfl) (by kernel_rfl) (fun _ => rfl) (Nat.le_of_ble_eq_true (by kernel_rfl)) ?_; unfold Tryz.f27; simp only [Option.get!_some]
  repeat (first | (simp only [go_sem, Nat.reduceEqDiff, Nat.reduceAdd, Nat.reduceSub, Nat.reduceMul, Nat.reduceLeDiff, Nat.reduceLT, reduceIte, reduceCtorEq, Nat.succ_ne_zero, elemsC, Int.reduceToNat, Nat.reducePow]) | (simp (disch := (first | omega | (simp only [AL, List.length_map]; omega))) only [AR, AL, ifT, ifF, take_all, List.length_cons, List.length_nil, Int.reduceToNat, Int.reducePow, Nat.reducePow]) | (refine wk_intro (by kernel_rfl) ?_) | (refine vp_draw (id := 1) (l := []) (by kernel_rfl) ?_) | (refine vf_of (by first | exact s1 | exact s2) ?_))
theorem wf_int64E {n : Int} (h : (Lit.int .i64 n).wf = true) : -9223372036854775808 ≤ n ∧ n < 9223372036854775808 := by
  have h' : decide (IntKind.i64.min ≤ n ∧ n ≤ IntKind.i64.max) = true := by simpa [Lit.wf] using h
  have := of_decide_eq_true h'
  simp only [show IntKind.i64.min = -9223372036854775808 from rfl, show IntKind.i64.max = 9223372036854775807 from rfl] at this
  omega
section
variable {z : Rat} {p : Int} {s : Bool} {n d : List Nat}
end
end Go.Proofs.YtemnjalaincijaaGreat
namespace Go.Proofs.YtemnjalaincijaaGreat
open Go.Ev
theorem mk_in {w A B : Nat} {V : Rat} (h : Enc w A B V) : mkRat (A : Int) (2 ^ w) ≤ V ∧ V ≤ mkRat (B : Int) (2 ^ w) := by
  have P := p2_pos w
  exact ⟨le_by P (by rw [mk_p2]; exact h.1), le_by P (by rw [mk_p2]; exact h.2)⟩
theorem lim_len_p2k {n w : Nat} (h : n ≤ 2 ^ w) : (lim n).length ≤ w / 32 + 2 := by
  have := lim_len_pw (n := n) (w := w + 1) (Nat.lt_of_le_of_lt h (Nat.pow_lt_pow_right (by omega) (by omega)))
  omega
section
variable {v : SV} {x : Rat} {w n p : Nat}
set_option maxHeartbeats 1000000 in
theorem ref11_iv (hv : RatA v x 7) (h0 : 0 ≤ x) (h64 : x ≤ 64) (hn : 1 ≤ n) (hn2 : n ≤ 30) (hw0 : 20 ≤ w) (hw : w ≤ 130) :
    ∃ A B : Nat, ∃ lo hi : Rat, Go.Ev.Fn CX 69 [.int .i64 (n : Int), v, .int .i64 (w : Int)] (ivN A B) ∧ A ≤ B ∧ (lim B).length ≤ 1200 ∧ 0 ≤ lo ∧ 0 ≤ hi ∧ lo * lo ≤ x ∧ x ≤ hi * hi ∧ ∀ s, lo ≤ s → s ≤ hi → ∃ L0, ∀ L, L0 ≤ L → Enc w A B (igV n s x L) := by
  obtain ⟨W, hW, hw1, hw2, hwi⟩ : ∃ W : Nat, (∀ Q : Nat → Prop, Q W → Q (w + 230)) ∧ 250 ≤ W ∧ W ≤ 360 ∧ (w : Int) + 230 = (W : Int) := ⟨w + 230, fun Q h => h, by omega, by omega, rfl⟩
  have zx := szR_of hv (by omega)
  have ng := ref2_Neg hv (by omega) (by omega)
  have nx0 : -x ≤ 0 := by grind
  have nx64 : -64 ≤ -x := by grind
  obtain ⟨A1, B1, lo, hi, ff, f1, f2, a0, a1, a2, a3, ef⟩ := ref11_front (n := n) (w := W) hv h0 h64 hn hn2 (by omega) (by omega)
  obtain ⟨A2, B2, g1, g2, fe, s1, ee⟩ := ref6_Iv (w := W) (RatA_rv (szR_neg zx)) (by omega) (by omega) nx0 nx64 (by omega)
  obtain ⟨A3, B3, fr, r1, r2, s2, es⟩ := ref11_row (n := n) (w := W) hv h0 h64 hn hn2 (by omega) (by omega)
  have P : 0 < 2 ^ W := Nat.pow_pos (by omega)
  have lB2 := lim_len_p2k g2
  clear g2
  have pr1 := ref4_ProdN (a := A1) (b := B1) (c := A2) (d := B2) (w := W) f1 g1 (by omega) (by omega) (by omega) (by omega)
  have m12 : A1 * A2 / 2 ^ W ≤ cdv (B1 * B2) (2 ^ W) := div_le_cdv P (Nat.mul_le_mul f1 g1)
  have lm := Nat.le_trans (lim_len_mono (cdv_self (B1 * B2) P)) lim_len_mul
  have pr2 := ref4_ProdN (a := A1 * A2 / 2 ^ W) (b := cdv (B1 * B2) (2 ^ W)) (c := A3) (d := B3) (w := W) m12 r1 (by omega) (by omega) (by omega) (by omega)
  have z12 : A1 * A2 / 2 ^ W * A3 / 2 ^ W ≤ cdv (cdv (B1 * B2) (2 ^ W) * B3) (2 ^ W) := div_le_cdv P (Nat.mul_le_mul m12 r1)
  have lz := Nat.le_trans (lim_len_mono (cdv_self (cdv (B1 * B2) (2 ^ W) * B3) P)) lim_len_mul
  have en : ∀ s, lo ≤ s → s ≤ hi → ∀ L, s1 + s2 ≤ L → Enc W (A1 * A2 / 2 ^ W * A3 / 2 ^ W) (cdv (cdv (B1 * B2) (2 ^ W) * B3) (2 ^ W)) (igV n s x L) := by
    intro s q1 q2 L hL
    have e := enc_prodN (enc_prodN (ef s q1 q2) (ee L (by omega))) (es L (by omega))
    have e2 : igV n s x L = igC n s * tk (x * 2) (2 + n % 2) (n / 2) * evX (-x) L * sk (x * 2) (n + 2) L := by unfold igV; grind
    rw [e2]; exact e
  generalize A1 * A2 / 2 ^ W = M1 at *
  generalize cdv (B1 * B2) (2 ^ W) = M2 at *
  generalize M1 * A3 / 2 ^ W = Z1 at *
  generalize cdv (M2 * B3) (2 ^ W) = Z2 at *
  have bk := ref4_BackN (a := Z1) (b := Z2) (n := 230) (Nat.le_trans (lim_len_mono z12) (by omega)) (by omega) (by omega) (by omega)
  have o12 := div_le_cdv (d := 2 ^ 230) (Nat.two_pow_pos 230) z12
  have lO := lim_len_mono (cdv_self Z2 (Nat.two_pow_pos 230))
  refine ⟨_, _, lo, hi, ?_, o12, by omega, a0, a1, a2, a3, fun s q1 q2 => ⟨s1 + s2, fun L hL => enc_backN (w := w) (n := 230) (hW (fun W => Enc W Z1 Z2 (igV n s x L)) (en s q1 q2 L hL))⟩⟩
  clear en ef ee es z12 o12 a0 a1 a2 a3 h0 h64 nx0 nx64 zx
  generalize -x = nx at *
  generalize Z1 / 2 ^ 230 = O1 at *
  generalize cdv Z2 (2 ^ 230) = O2 at *
  obtain ⟨s0, n0, d0, rfl, -⟩ := hv
  refine Go.Ev.Fn.intro (fn := Tryz.f69) (body := (Tryz.f69).body.get!) (by kernel_rfl) (by kernel_rfl) (by kernel_rfl) (fun _ => rfl) (Nat.le_of_ble_eq_true (by kernel_rfl)) ?_; unfold Tryz.f69; simp only [Option.get!_some]
  repeat (first | (simp only [go_sem, Nat.reduceEqDiff, Nat.reduceAdd, Nat.reduceSub, Nat.reduceMul, Nat.reduceLeDiff, Nat.reduceLT, reduceIte, reduceCtorEq, Nat.succ_ne_zero, elemsC, Int.reduceToNat, Nat.reducePow, hwi]) | (simp (disch := (first | omega | (simp only [AL, List.length_map]; omega))) only [AR, AL, ifT, ifF, take_all, List.length_cons, List.length_nil, Int.reduceToNat, Int.reducePow, Nat.reducePow, hwi]) | (refine wk_intro (by kernel_rfl) ?_) | (refine vp_draw (id := 3) (l := []) (by kernel_rfl) ?_) | (refine vf_of (by first | exact ng | exact fe | exact ff | exact pr1 | exact fr | exact pr2 | exact bk) ?_))
theorem ref11_in {nI : Int} (hv : RatA v x 7) (h0 : 0 ≤ x) (h64 : x ≤ 64) (hn : 1 ≤ nI) (hn2 : nI ≤ 256) : Go.Ev.Fn CX 65 [.int .i64 nI, v] (.bool false) := by
  have nm := ref2_Norm hv (by omega)
  have zx := szR_of hv (by omega)
  have i6 := ref2_Int 64 (by omega)
  have c2 := ref2_Cmp (RatA_rv zx) (RatA_rv (int_szR (n := 64) (by omega))) (by omega) (by omega) (by omega)
  have e2 : decide (cmpR x ((64 : Int) : Rat) > 0) = false := by rw [cmpR_gt]; exact decide_eq_false (Rat.not_lt.2 h64)
  rw [ervP h0] at nm c2
  generalize cmpR x ((64 : Int) : Rat) = y2 at *
  clear h0 h64
  obtain ⟨s, N, D, rfl, -⟩ := hv
  refine Go.Ev.Fn.intro (fn := Tryz.f65) (body := (Tryz.f65).body.get!) (by kernel_rfl) (by kernel_rfl) (by kernel_rfl) (fun _ => rfl) (Nat.le_of_ble_eq_true (by kernel_rfl)) ?_; unfold Tryz.f65; simp only [Option.get!_some]
  repeat (first | (simp only [go_sem, Nat.reduceEqDiff, Nat.reduceAdd, Nat.reduceSub, Nat.reduceMul, Nat.reduceLeDiff, Nat.reduceLT, reduceIte, reduceCtorEq, Nat.succ_ne_zero, elemsC, Int.reduceToNat, Nat.reducePow, e2]) | (simp (disch := (first | omega | (simp only [AL, List.length_map]; omega))) only [AR, AL, ifT, ifF, take_all, List.length_cons, List.length_nil, Int.reduceToNat, Int.reducePow, Nat.reducePow, e2]) | (refine wk_intro (by kernel_rfl) ?_) | (refine vp_draw (id := 2) (l := []) (by kernel_rfl) ?_) | (refine vf_of (by first | exact nm | exact i6 | exact c2) ?_))
theorem ref11_out {nI : Int} (hv : RatA v x 7) (hn1 : -9223372036854775808 ≤ nI ∧ nI < 9223372036854775808) (h : nI < 1 ∨ 256 < nI ∨ x < 0 ∨ 64 < x) : Go.Ev.Fn CX 65 [.int .i64 nI, v] (.bool true) := by
  have nm := ref2_Norm hv (by omega)
  have zx := szR_of hv (by omega)
  have i6 := ref2_Int 64 (by omega)
  have c2 := ref2_Cmp (RatA_rv zx) (RatA_rv (int_szR (n := 64) (by omega))) (by omega) (by omega) (by omega)
  have e2 : decide (cmpR x ((64 : Int) : Rat) > 0) = decide (64 < x) := by rw [cmpR_gt]; rfl
  generalize cmpR x ((64 : Int) : Rat) = y2 at *
  have er : rv x = ratV (decide (x < 0)) (lim x.num.natAbs) (lim x.den) := by rw [← neg_numX]
  rw [er] at nm c2
  by_cases g1 : nI < 1
  · clear h
    obtain ⟨s, N, D, rfl, -⟩ := hv
    refine Go.Ev.Fn.intro (fn := Tryz.f65) (body := (Tryz.f65).body.get!) (by kernel_rfl) (by kernel_rfl) (by kernel_rfl) (fun _ => rfl) (Nat.le_of_ble_eq_true (by kernel_rfl)) ?_; unfold Tryz.f65; simp only [Option.get!_some]
    repeat (first | (simp only [go_sem, Nat.reduceEqDiff, Nat.reduceAdd, Nat.reduceSub, Nat.reduceMul, Nat.reduceLeDiff, Nat.reduceLT, reduceIte, reduceCtorEq, Nat.succ_ne_zero, elemsC, Int.reduceToNat, Nat.reducePow]) | (simp (disch := (first | omega | (simp only [AL, List.length_map]; omega))) only [AR, AL, ifT, ifF, take_all, List.length_cons, List.length_nil, Int.reduceToNat, Int.reducePow, Nat.reducePow]) | (refine wk_intro (by kernel_rfl) ?_) | (refine vp_draw (id := 2) (l := []) (by kernel_rfl) ?_) | (refine vf_of (by first | exact nm) ?_))
  by_cases g2 : 256 < nI
  · clear h
    obtain ⟨s, N, D, rfl, -⟩ := hv
    refine Go.Ev.Fn.intro (fn := Tryz.f65) (body := (Tryz.f65).body.get!) (by kernel_rfl) (by kernel_rfl) (by kernel_rfl) (fun _ => rfl) (Nat.le_of_ble_eq_true (by kernel_rfl)) ?_; unfold Tryz.f65; simp only [Option.get!_some]
    repeat (first | (simp only [go_sem, Nat.reduceEqDiff, Nat.reduceAdd, Nat.reduceSub, Nat.reduceMul, Nat.reduceLeDiff, Nat.reduceLT, reduceIte, reduceCtorEq, Nat.succ_ne_zero, elemsC, Int.reduceToNat, Nat.reducePow]) | (simp (disch := (first | omega | (simp only [AL, List.length_map]; omega))) only [AR, AL, ifT, ifF, take_all, List.length_cons, List.length_nil, Int.reduceToNat, Int.reducePow, Nat.reducePow]) | (refine wk_intro (by kernel_rfl) ?_) | (refine vp_draw (id := 2) (l := []) (by kernel_rfl) ?_) | (refine vf_of (by first | exact nm) ?_))
  by_cases g3 : x < 0
  · rw [decide_eq_true g3] at nm
    clear h g3
    obtain ⟨s, N, D, rfl, -⟩ := hv
    refine Go.Ev.Fn.intro (fn := Tryz.f65) (body := (Tryz.f65).body.get!) (by kernel_rfl) (by kernel_rfl) (by kernel_rfl) (fun _ => rfl) (Nat.le_of_ble_eq_true (by kernel_rfl)) ?_; unfold Tryz.f65; simp only [Option.get!_some]
    repeat (first | (simp only [go_sem, Nat.reduceEqDiff, Nat.reduceAdd, Nat.reduceSub, Nat.reduceMul, Nat.reduceLeDiff, Nat.reduceLT, reduceIte, reduceCtorEq, Nat.succ_ne_zero, elemsC, Int.reduceToNat, Nat.reducePow]) | (simp (disch := (first | omega | (simp only [AL, List.length_map]; omega))) only [AR, AL, ifT, ifF, take_all, List.length_cons, List.length_nil, Int.reduceToNat, Int.reducePow, Nat.reducePow]) | (refine wk_intro (by kernel_rfl) ?_) | (refine vp_draw (id := 2) (l := []) (by kernel_rfl) ?_) | (refine vf_of (by first | exact nm) ?_))
  · rw [decide_eq_false g3] at nm c2
    rw [decide_eq_true ((h.resolve_left g1).resolve_left g2 |>.resolve_left g3)] at e2
    clear h g3
    obtain ⟨s, N, D, rfl, -⟩ := hv
    refine Go.Ev.Fn.intro (fn := Tryz.f65) (body := (Tryz.f65).body.get!) (by kernel_rfl) (by kernel_rfl) (by kernel_rfl) (fun _ => rfl) (Nat.le_of_ble_eq_true (by kernel_rfl)) ?_; unfold Tryz.f65; simp only [Option.get!_some]
    repeat (first | (simp only [go_sem, Nat.reduceEqDiff, Nat.reduceAdd, Nat.reduceSub, Nat.reduceMul, Nat.reduceLeDiff, Nat.reduceLT, reduceIte, reduceCtorEq, Nat.succ_ne_zero, elemsC, Int.reduceToNat, Nat.reducePow, e2]) | (simp (disch := (first | omega | (simp only [AL, List.length_map]; omega))) only [AR, AL, ifT, ifF, take_all, List.length_cons, List.length_nil, Int.reduceToNat, Int.reducePow, Nat.reducePow, e2]) | (refine wk_intro (by kernel_rfl) ?_) | (refine vp_draw (id := 2) (l := []) (by kernel_rfl) ?_) | (refine vf_of (by first | exact nm | exact i6 | exact c2) ?_))
theorem ref11_Pout {nI pI : Int} (hv : RatA v x 7) (hn1 : -9223372036854775808 ≤ nI ∧ nI < 9223372036854775808) (h : nI < 1 ∨ 256 < nI ∨ x < 0 ∨ 64 < x) : Go.Ev.Fn CX 17 [.int .i64 nI, v, .int .i64 pI] (.tup [ballR 0 0, .bool false]) := by
  have bd := ref11_out hv hn1 h
  have i0 := ref2_Int 0 (by omega)
  have o := ref4_Of (RatA_rv (int_szR (n := 0) (by omega))) (by omega)
  rw [show ((0 : Int) : Rat) = 0 from rfl] at i0 o
  clear h
  obtain ⟨s, N, D, rfl, -⟩ := hv
  refine Go.Ev.Fn.intro (fn := Tryz.f17) (body := (Tryz.f17).body.get!) (by kernel_rfl) (by kernel_rfl) (by kernel_rfl) (fun _ => rfl) (Nat.le_of_ble_eq_true (by kernel_rfl)) ?_; unfold Tryz.f17; simp only [Option.get!_some]
  repeat (first | (simp only [go_sem, Nat.reduceEqDiff, Nat.reduceAdd, Nat.reduceSub, Nat.reduceMul, Nat.reduceLeDiff, Nat.reduceLT, reduceIte, reduceCtorEq, Nat.succ_ne_zero, elemsC, Int.reduceToNat, Nat.reducePow]) | (simp (disch := (first | omega | (simp only [AL, List.length_map]; omega))) only [AR, AL, ifT, ifF, take_all, List.length_cons, List.length_nil, Int.reduceToNat, Int.reducePow, Nat.reducePow]) | (refine wk_intro (by kernel_rfl) ?_) | (refine vf_of (by first | exact i0 | exact o | exact bd) ?_))
theorem ref11_Pzero {nI pI : Int} (hv : RatA v 0 7) (hn : 1 ≤ nI) (hn2 : nI ≤ 256) : Go.Ev.Fn CX 17 [.int .i64 nI, v, .int .i64 pI] (.tup [ballR 0 0, .bool true]) := by
  have bd := ref11_in (nI := nI) hv (by decide) (by decide) hn hn2
  have i0 := ref2_Int 0 (by omega)
  have o := ref4_Of (RatA_rv (int_szR (n := 0) (by omega))) (by omega)
  have zr := ref2_Zero hv (by omega) (by omega)
  rw [decide_eq_true rfl] at zr
  rw [show ((0 : Int) : Rat) = 0 from rfl] at i0 o
  clear hn hn2
  obtain ⟨s, N, D, rfl, -⟩ := hv
  refine Go.Ev.Fn.intro (fn := Tryz.f17) (body := (Tryz.f17).body.get!) (by kernel_rfl) (by kernel_rfl) (by kernel_rfl) (fun _ => rfl) (Nat.le_of_ble_eq_true (by kernel_rfl)) ?_; unfold Tryz.f17; simp only [Option.get!_some]
  repeat (first | (simp only [go_sem, Nat.reduceEqDiff, Nat.reduceAdd, Nat.reduceSub, Nat.reduceMul, Nat.reduceLeDiff, Nat.reduceLT, reduceIte, reduceCtorEq, Nat.succ_ne_zero, elemsC, Int.reduceToNat, Nat.reducePow]) | (simp (disch := (first | omega | (simp only [AL, List.length_map]; omega))) only [AR, AL, ifT, ifF, take_all, List.length_cons, List.length_nil, Int.reduceToNat, Int.reducePow, Nat.reducePow]) | (refine wk_intro (by kernel_rfl) ?_) | (refine vf_of (by first | exact i0 | exact o | exact bd | exact zr) ?_))
theorem ref11_P (hv : RatA v x 7) (h0 : 0 < x) (h64 : x ≤ 64) (hn : 1 ≤ n) (hn2 : n ≤ 30) (hp : p ≤ 110) :
    ∃ l h lo hi : Rat, Go.Ev.Fn CX 17 [.int .i64 (n : Int), v, .int .i64 (p : Int)] (.tup [ballR l h, .bool true]) ∧ szR l 1200 ∧ szR h 1200 ∧ 0 ≤ lo ∧ 0 ≤ hi ∧ lo * lo ≤ x ∧ x ≤ hi * hi ∧ ∀ s, lo ≤ s → s ≤ hi → ∃ L0, ∀ L, L0 ≤ L → l ≤ igV n s x L ∧ igV n s x L ≤ h := by
  obtain ⟨A, B, lo, hi, fi, i12, lB, a0, a1, a2, a3, en⟩ := ref11_iv (n := n) (w := p + 20) hv (Rat.le_of_lt h0) h64 hn hn2 (by omega) (by omega)
  have lA := lim_len_mono i12
  have lp := lim_len_p2k (n := 2 ^ (p + 20)) (w := p + 20) (Nat.le_refl _)
  have bl := ref4_Ball (a := (A : Int)) (b := (B : Int)) (by rw [Int.natAbs_natCast]; omega) (by rw [Int.natAbs_natCast]; omega) (p + 20) (by omega)
  rw [ivN_eq] at bl
  refine ⟨mkRat (A : Int) (2 ^ (p + 20)), mkRat (B : Int) (2 ^ (p + 20)), lo, hi, ?_, szR_nat (by omega) (by omega) (by omega), szR_nat (by omega) (by omega) (by omega), a0, a1, a2, a3, fun s q1 q2 => ?_⟩
  rotate_left
  · obtain ⟨L0, h⟩ := en s q1 q2
    exact ⟨L0, fun L hL => mk_in (h L hL)⟩
  have bd := ref11_in (nI := (n : Int)) hv (Rat.le_of_lt h0) h64 (by omega) (by omega)
  have i0 := ref2_Int 0 (by omega)
  have o := ref4_Of (RatA_rv (int_szR (n := 0) (by omega))) (by omega)
  have zr := ref2_Zero hv (by omega) (by omega)
  rw [decide_eq_false (show ¬ x = 0 by clear en; grind)] at zr
  rw [show ((0 : Int) : Rat) = 0 from rfl] at i0 o
  have ho := ref10_Hold (p := p) (by omega)
  rw [show ((p + 20 : Nat) : Int) = (p : Int) + 20 from rfl] at fi bl
  clear en h0 h64 a0 a1 a2 a3
  generalize mkRat (A : Int) (2 ^ (p + 20)) = q1 at *
  generalize mkRat (B : Int) (2 ^ (p + 20)) = q2 at *
  obtain ⟨s, N, D, rfl, -⟩ := hv
  refine Go.Ev.Fn.intro (fn := Tryz.f17) (body := (Tryz.f17).body.get!) (by kernel_rfl) (by kernel_rfl) (by kernel_rfl) (fun _ => rfl) (Nat.le_of_ble_eq_true (by kernel_rfl)) ?_; unfold Tryz.f17; simp only [Option.get!_some]
  repeat (first | (simp only [go_sem, Nat.reduceEqDiff, Nat.reduceAdd, Nat.reduceSub, Nat.reduceMul, Nat.reduceLeDiff, Nat.reduceLT, reduceIte, reduceCtorEq, Nat.succ_ne_zero, elemsC, Int.reduceToNat, Nat.reducePow]) | (simp (disch := (first | omega | (simp only [AL, List.length_map]; omega))) only [AR, AL, ifT, ifF, take_all, List.length_cons, List.length_nil, Int.reduceToNat, Int.reducePow, Nat.reducePow]) | (refine wk_intro (by kernel_rfl) ?_) | (refine vf_of (by first | exact i0 | exact o | exact bd | exact zr | exact ho | exact fi | exact bl) ?_))
theorem ref4_NegI {a b : Rat} {L : Nat} (ha : szR a L) (hb : szR b L) (hL1 : 1 ≤ L) (hL : L ≤ 100000) : Go.Ev.Fn CX 48 [ballR a b] (ballR (-b) (-a)) := by
  have n1 := ref2_Neg (RatA_rv ha) hL1 (by omega)
  have n2 := ref2_Neg (RatA_rv hb) hL1 (by omega)
  generalize -a = u at *
  generalize -b = w at *
  refine Go.Ev.Fn.intro (fn := Tryz.f48) (body := (Tryz.f48).body.get!) (by kernel_rfl) (by kernel_rfl) (by kernel_rfl) (fun _ => rfl) (Nat.le_of_ble_eq_true (by kernel_rfl)) ?_; unfold Tryz.f48; simp only [Option.get!_some]
  repeat (first | (simp only [go_sem, Nat.reduceEqDiff, Nat.reduceAdd, Nat.reduceSub, Nat.reduceMul, Nat.reduceLeDiff, Nat.reduceLT, reduceIte, reduceCtorEq, Nat.succ_ne_zero, elemsC, Int.reduceToNat, Nat.reducePow]) | (simp (disch := (first | omega | (simp only [AL, List.length_map]; omega))) only [AR, AL, ifT, ifF, take_all, List.length_cons, List.length_nil, Int.reduceToNat, Int.reducePow, Nat.reducePow]) | (refine wk_intro (by kernel_rfl) ?_) | (refine vp_draw (id := 1) (l := []) (by kernel_rfl) ?_) | (refine vf_of (by first | exact n2 | exact n1) ?_))
theorem ref4_SubI {a b c d : Rat} {L M : Nat} (ha : szR a L) (hb : szR b L) (hc : szR c M) (hd : szR d M) (hL1 : 1 ≤ L) (hM1 : 1 ≤ M) (hL : L + M ≤ 100000) : Go.Ev.Fn CX 70 [ballR a b, ballR c d] (ballR (a - d) (b - c)) := by
  have s1 := ref4_NegI hc hd hM1 (by omega)
  have s2 := ref4_AddE ha hb (szR_neg hd) (szR_neg hc) hL1 hM1 hL
  rw [← Rat.sub_eq_add_neg, ← Rat.sub_eq_add_neg] at s2
  generalize a - d = x at *
  generalize b - c = y at *
  generalize -c = u at *
  generalize -d = w at *
  refine Go.Ev.Fn.intro (fn := Tryz.f70) (body := (Tryz.f70).body.get!) (by kernel_rfl) (by kernel_rfl) (by kernel_rfl) (fun _ => rfl) (Nat.le_of_ble_eq_true (by kernel_rfl)) ?_; unfold Tryz.f70; simp only [Option.get!_some]
  repeat (first | (simp only [go_sem, Nat.reduceEqDiff, Nat.reduceAdd, Nat.reduceSub, Nat.reduceMul, Nat.reduceLeDiff, Nat.reduceLT, reduceIte, reduceCtorEq, Nat.succ_ne_zero, elemsC, Int.reduceToNat, Nat.reducePow]) | (simp (disch := (first | omega | (simp only [AL, List.length_map]; omega))) only [AR, AL, ifT, ifF, take_all, List.length_cons, List.length_nil, Int.reduceToNat, Int.reducePow, Nat.reducePow]) | (refine wk_intro (by kernel_rfl) ?_) | (refine vp_draw (id := 1) (l := []) (by kernel_rfl) ?_) | (refine vf_of (by first | exact s1 | exact s2) ?_))
theorem ref11_Qbad {nI pI : Int} (hv : RatA v x 7) (h : Go.Ev.Fn CX 17 [.int .i64 nI, v, .int .i64 pI] (.tup [ballR 0 0, .bool false])) : Go.Ev.Fn CX 21 [.int .i64 nI, v, .int .i64 pI] (.tup [ballR 0 0, .bool false]) := by
  obtain ⟨s0, n0, d0, rfl, -⟩ := hv
  refine Go.Ev.Fn.intro (fn := Tryz.f21) (body := (Tryz.f21).body.get!) (by kernel_rfl) (by kernel_rfl) (by kernel_rfl) (fun _ => rfl) (Nat.le_of_ble_eq_true (by kernel_rfl)) ?_; unfold Tryz.f21; simp only [Option.get!_some]
  repeat (first | (simp only [go_sem, Nat.reduceEqDiff, Nat.reduceAdd, Nat.reduceSub, Nat.reduceMul, Nat.reduceLeDiff, Nat.reduceLT, reduceIte, reduceCtorEq, Nat.succ_ne_zero, elemsC, Int.reduceToNat, Nat.reducePow, Bool.not_false]) | (simp (disch := (first | omega | (simp only [AL, List.length_map]; omega))) only [AR, AL, ifT, ifF, take_all, List.length_cons, List.length_nil, Int.reduceToNat, Int.reducePow, Nat.reducePow, Bool.not_false]) | (refine wk_intro (by kernel_rfl) ?_) | (refine vp_draw (id := 4) (l := []) (by kernel_rfl) ?_) | (refine vf_of (by first | exact h) ?_))
theorem ref11_Q {nI pI : Int} {l h : Rat} (hv : RatA v x 7) (zl : szR l 1200) (zh : szR h 1200) (f : Go.Ev.Fn CX 17 [.int .i64 nI, v, .int .i64 pI] (.tup [ballR l h, .bool true])) : Go.Ev.Fn CX 21 [.int .i64 nI, v, .int .i64 pI] (.tup [ballR (1 - h) (1 - l), .bool true]) := by
  have i1 := ref2_Int 1 (by omega)
  have z1 := int_szR (n := (1 : Int)) (by omega)
  have o := ref4_Of (RatA_rv z1) (by omega)
  have b := ref4_SubI z1 z1 zl zh (by omega) (by omega) (by omega)
  rw [show ((1 : Int) : Rat) = 1 from rfl] at i1 o b
  generalize 1 - h = y1 at *
  generalize 1 - l = y2 at *
  obtain ⟨s0, n0, d0, rfl, -⟩ := hv
  refine Go.Ev.Fn.intro (fn := Tryz.f21) (body := (Tryz.f21).body.get!) (by kernel_rfl) (by kernel_rfl) (by kernel_rfl) (fun _ => rfl) (Nat.le_of_ble_eq_true (by kernel_rfl)) ?_; unfold Tryz.f21; simp only [Option.get!_some]
  repeat (first | (simp only [go_sem, Nat.reduceEqDiff, Nat.reduceAdd, Nat.reduceSub, Nat.reduceMul, Nat.reduceLeDiff, Nat.reduceLT, reduceIte, reduceCtorEq, Nat.succ_ne_zero, elemsC, Int.reduceToNat, Nat.reducePow, Bool.not_true]) | (simp (disch := (first | omega | (simp only [AL, List.length_map]; omega))) only [AR, AL, ifT, ifF, take_all, List.length_cons, List.length_nil, Int.reduceToNat, Int.reducePow, Nat.reducePow, Bool.not_true]) | (refine wk_intro (by kernel_rfl) ?_) | (refine vp_draw (id := 4) (l := []) (by kernel_rfl) ?_) | (refine vf_of (by first | exact f | exact i1 | exact o | exact b) ?_))
end
end Go.Proofs.YtemnjalaincijaaGreat
