/- Part 10 of the proof: the evaluator, contracts of functions and their plain laws (joined by program). No condition. -/
import Derived.Test.YtemnjalaincijaaGreatPart9
/- fix: Rat, Unit, Told, Power, in the evaluator. -/
namespace Go.Proofs.YtemnjalaincijaaGreat
set_option linter.unusedSimpArgs false
set_option linter.unusedVariables false
set_option maxRecDepth 8000
open Go.Ev
set_option maxHeartbeats 1000000 in
theorem fix_Power {a1 a2 n w F : Nat} (hn : n < 2 ^ F) (hF : F ≤ 4) (h1 : (lim a1).length ≤ 50) (h2 : (lim a2).length ≤ 50) (hw : w ≤ 1000) (hw0 : 0 < w) :
    Go.Ev.Fn CX 230 [spanV a1 a2, .int .i64 (n : Int), .int .i64 (w : Int)] (spanV (powGo w F n (2 ^ w) (2 ^ w + 1) a1 a2).1 (powGo w F n (2 ^ w) (2 ^ w + 1) a1 a2).2) := by
  have un := fix_Unit (w := w) (by omega)
  have l1 := lim_len1
  have lp := lim_len_shl (a := 1) (n := w)
  rw [Nat.one_mul] at lp
  have lp2 := lim_len_add (a := 2 ^ w) (b := 1) (L := 40) (by omega) (by omega)
  obtain ⟨R, hR⟩ : ∃ R, R = powGo w F n (2 ^ w) (2 ^ w + 1) a1 a2 := ⟨_, rfl⟩
  rw [← hR]
  have hF16 : (2 : Nat) ^ F ≤ 16 := Nat.pow_le_pow_right (n := 2) (by omega) hF
  have hF4 : 100 * 2 ^ F ≤ 1600 := by omega
  refine Go.Ev.Fn.intro (fn := Tryz.f230) (body := (Tryz.f230).body.get!) (by kernel_rfl) (by kernel_rfl) (by kernel_rfl) (fun _ => rfl) (Nat.le_of_ble_eq_true (by kernel_rfl)) ?_; unfold Tryz.f230; simp only [Option.get!_some]
  repeat (first | (simp only [go_sem, Nat.reduceEqDiff, Nat.reduceAdd, Nat.reduceSub, Nat.reduceMul, Nat.reduceLeDiff, Nat.reduceLT, reduceIte, reduceCtorEq, Nat.succ_ne_zero, elemsC, Int.reduceToNat, Nat.reducePow]) | (simp (disch := (first | omega | (simp only [AL, List.length_map]; omega))) only [AR, AL, ifT, ifF, take_all, List.length_cons, List.length_nil, Int.reduceToNat, Int.reducePow, Nat.reducePow]) | (refine wk_intro (by kernel_rfl) ?_) | (refine vf_of (by first | exact un) ?_))
  refine vp_loop_inv (fun s => s.tmp 2 = .sv (.int .i64 (w : Int)) ∧ s.tmp 3 = .ptr 3 0 0 ∧ s.tmp 6 = .ptr 6 0 0 ∧ s.obj 6 0 = some [.sl 0 [], .sl 0 []] ∧ s.tmp 7 = .ptr 7 0 0 ∧
      ∃ f m c1 c2 d1 d2 e g : Nat, s.tmp 1 = .sv (.int .i64 (m : Int)) ∧ m < 2 ^ f ∧ f ≤ F ∧ s.obj 7 0 = some [natV (lim c1), natV (lim c2)] ∧ s.obj 3 0 = some [natV (lim d1), natV (lim d2)] ∧ powGo w f m c1 c2 d1 d2 = R ∧
        (lim c1).length ≤ e ∧ (lim c2).length ≤ e ∧ (lim d1).length ≤ g ∧ (lim d2).length ≤ g ∧ (g + 1) * 2 ^ f ≤ 1600 ∧ e + 1601 * f ≤ 7000 ∧ 1 ≤ e)
    (fun s => match s.tmp 1 with | .sv (.int _ i) => i.toNat | _ => 0) ⟨rfl, rfl, rfl, rfl, rfl, F, n, 2 ^ w, 2 ^ w + 1, a1, a2, 41, 50, rfl, hn, Nat.le_refl _, rfl, rfl, hR.symm, by omega, by omega, by omega, by omega, by omega, by omega, by omega⟩ ?_
  rintro s ⟨i2, i3, i6, o6, i7, f, m, c1, c2, d1, d2, e, g, i1, hm, hf, o7, o3, hp, x1, x2, x3, x4, x5, x6, x7⟩
  cases f with
  | zero =>
    obtain rfl : m = 0 := by omega
    rw [powGo_zero] at hp
    subst hp
    repeat (first | (simp only [go_sem, Nat.reduceEqDiff, Nat.reduceAdd, Nat.reduceSub, Nat.reduceMul, Nat.reduceLeDiff, Nat.reduceLT, reduceIte, reduceCtorEq, Nat.succ_ne_zero, elemsC, Int.reduceToNat, Nat.reducePow, i2, i3, i6, o6, i7, i1, o7, o3]) | (simp (disch := (first | omega | (simp only [AL, List.length_map]; omega))) only [AR, AL, ifT, ifF, take_all, List.length_cons, List.length_nil, Int.reduceToNat, Int.reducePow, Nat.reducePow, i2, i3, i6, o6, i7, i1, o7, o3]) | (refine wk_intro (by kernel_rfl) ?_))
  | succ f =>
    rw [powGo] at hp
    by_cases h0 : m = 0
    · subst h0
      rw [if_pos rfl] at hp
      subst hp
      repeat (first | (simp only [go_sem, Nat.reduceEqDiff, Nat.reduceAdd, Nat.reduceSub, Nat.reduceMul, Nat.reduceLeDiff, Nat.reduceLT, reduceIte, reduceCtorEq, Nat.succ_ne_zero, elemsC, Int.reduceToNat, Nat.reducePow, i2, i3, i6, o6, i7, i1, o7, o3]) | (simp (disch := (first | omega | (simp only [AL, List.length_map]; omega))) only [AR, AL, ifT, ifF, take_all, List.length_cons, List.length_nil, Int.reduceToNat, Int.reducePow, Nat.reducePow, i2, i3, i6, o6, i7, i1, o7, o3]) | (refine wk_intro (by kernel_rfl) ?_))
    · rw [if_neg h0] at hp
      rw [Nat.pow_succ] at hm x5
      have hp1 : 1 ≤ 2 ^ f := Nat.pow_pos (by omega)
      have hg : g + 1 ≤ 1600 := by
        have := Nat.le_mul_of_pos_right (g + 1) (show 0 < 2 ^ f * 2 by omega)
        omega
      have hm16 : m < 16 := by
        have : 2 ^ f * 2 ≤ 16 := by rw [← Nat.pow_succ]; exact Nat.le_trans (Nat.pow_le_pow_right (n := 2) (by omega) hf) hF16
        omega
      have an := and_one64 (a := m) (by omega)
      have y1 := lim_len_mul (a := c1) (b := d1)
      have y2 := lim_len_mul (a := c2) (b := d2)
      have y3 := lim_len_mul (a := d1) (b := d1)
      have y4 := lim_len_mul (a := d2) (b := d2)
      have w1 := lim_len_mono (Nat.div_le_self (c1 * d1) (2 ^ w))
      have w2 := lim_len_add (a := c2 * d2 / 2 ^ w) (b := 1) (L := e + g) (Nat.le_trans (lim_len_mono (Nat.div_le_self (c2 * d2) (2 ^ w))) (by omega)) (by omega)
      have w3 := lim_len_mono (Nat.div_le_self (d1 * d1) (2 ^ w))
      have hge : (g + g + 1 + 1) * 2 ^ f ≤ 1600 := by
        have : (g + g + 1 + 1) * 2 ^ f = (g + 1) * (2 ^ f * 2) := by
          rw [Nat.mul_comm (2 ^ f) 2, ← Nat.mul_assoc]; congr 1; omega
        omega
      have mm := fix_Mul (a := c1) (b := c2) (c := d1) (d := d2) (w := w) (by omega) (by omega) (by omega) (by omega) (by omega) hw0
      have sq := fix_Mul (a := d1) (b := d2) (c := d1) (d := d2) (w := w) (by omega) (by omega) (by omega) (by omega) (by omega) hw0
      have w4 : (lim (d2 * d2 / 2 ^ w + 1)).length ≤ g + g + 1 := by
        rcases Nat.eq_zero_or_pos g with hg0 | hg0
        · have : d2 = 0 := by
            have : (lim d2).length = 0 := by omega
            rw [List.length_eq_zero_iff] at this
            exact lim_eq_nil.1 this
          subst this
          rw [Nat.zero_mul, Nat.zero_div]
          show (lim 1).length ≤ _
          omega
        · exact lim_len_add (a := d2 * d2 / 2 ^ w) (b := 1) (L := g + g) (Nat.le_trans (lim_len_mono (Nat.div_le_self (d2 * d2) (2 ^ w))) (by omega)) (by omega)
      generalize c1 * d1 / 2 ^ w = u1 at *
      generalize c2 * d2 / 2 ^ w + 1 = u2 at *
      generalize d1 * d1 / 2 ^ w = v1 at *
      generalize d2 * d2 / 2 ^ w + 1 = v2 at *
      by_cases hod : m % 2 = 1
      · rw [if_pos hod] at hp
        rw [hod] at an
        repeat (first | (simp only [go_sem, Nat.reduceEqDiff, Nat.reduceAdd, Nat.reduceSub, Nat.reduceMul, Nat.reduceLeDiff, Nat.reduceLT, reduceIte, reduceCtorEq, Nat.succ_ne_zero, elemsC, Int.reduceToNat, Nat.reducePow, i2, i3, i6, o6, i7, i1, o7, o3, an]) | (simp (disch := (first | omega | (simp only [AL, List.length_map]; omega))) only [AR, AL, ifT, ifF, take_all, List.length_cons, List.length_nil, Int.reduceToNat, Int.reducePow, Nat.reducePow, i2, i3, i6, o6, i7, i1, o7, o3, an]) | (refine wk_intro (by kernel_rfl) ?_) | (refine vf_of (by first | exact mm | exact sq) ?_))
        exact ⟨⟨f, m / 2, u1, u2, v1, v2, e + g + 1, g + g + 1, rfl, by omega, by omega, rfl, rfl, hp, by omega, by omega, by omega, by omega, hge, by omega, by omega⟩, by omega⟩
      · rw [if_neg hod] at hp
        rw [show m % 2 = 0 by omega] at an
        repeat (first | (simp only [go_sem, Nat.reduceEqDiff, Nat.reduceAdd, Nat.reduceSub, Nat.reduceMul, Nat.reduceLeDiff, Nat.reduceLT, reduceIte, reduceCtorEq, Nat.succ_ne_zero, elemsC, Int.reduceToNat, Nat.reducePow, i2, i3, i6, o6, i7, i1, o7, o3, an]) | (simp (disch := (first | omega | (simp only [AL, List.length_map]; omega))) only [AR, AL, ifT, ifF, take_all, List.length_cons, List.length_nil, Int.reduceToNat, Int.reducePow, Nat.reducePow, i2, i3, i6, o6, i7, i1, o7, o3, an]) | (refine wk_intro (by kernel_rfl) ?_) | (refine vf_of (by first | exact sq) ?_))
        exact ⟨⟨f, m / 2, c1, c2, v1, v2, e, g + g + 1, rfl, by omega, by omega, rfl, rfl, hp, by omega, by omega, by omega, by omega, hge, by omega, by omega⟩, by omega⟩
end Go.Proofs.YtemnjalaincijaaGreat

/- Gamma at halves, ways to choose: plain mathematics, no program. -/
namespace Go.Ev
/-- The product of so many numbers, from one on, each so much more. -/
def prodN (a by' : Nat) : Nat → Nat
  | 0 => 1
  | c + 1 => prodN a by' c * (a + c * by')
theorem prodN_pos {a b : Nat} (ha : 0 < a) : ∀ c, 0 < prodN a b c := by
  intro c
  induction c with
  | zero => exact Nat.one_pos
  | succ c ih => exact Nat.mul_pos ih (by omega)
theorem prodN_len {a b c : Nat} (h : ∀ i, i < c → a + i * b < 4294967296) : (lim (prodN a b c)).length ≤ c + 1 := by
  induction c with
  | zero => exact lim_len_one (show 1 < 4294967296 by decide)
  | succ c ih =>
    have h1 := ih fun i hi => h i (by omega)
    have h2 := lim_len_mul (a := prodN a b c) (b := a + c * b)
    have h3 := lim_len_one (h c (by omega))
    show (lim (prodN a b c * (a + c * b))).length ≤ _
    omega
/-- Gamma of n by 2, but for the root of pi. -/
def gam2 (n : Nat) : Rat := if n % 2 = 0 then (prodN 2 1 (n / 2 - 2) : Nat) else mkRat (prodN 3 2 ((n - 3) / 2) : Nat) (2 ^ (n / 2))
theorem gam2_pos {n : Nat} : gam2 n ≠ 0 := by
  unfold gam2
  split
  · have := prodN_pos (a := 2) (b := 1) (by decide) (n / 2 - 2)
    intro h
    have h2 : prodN 2 1 (n / 2 - 2) = 0 := by exact_mod_cast h
    omega
  · have := prodN_pos (a := 3) (b := 2) (by decide) ((n - 3) / 2)
    intro h
    rw [Rat.mkRat_eq_zero (Nat.ne_of_gt (Nat.pow_pos (by decide)))] at h
    omega
/-- Beta of halves, but for how often pi. -/
def beta2 (a b : Nat) : Rat := gam2 a * gam2 b / gam2 (a + b)
end Go.Ev

/- gam.run, whole, half, Half; vernierlaw9.GamSteps, in the evaluator. -/
namespace Go.Proofs.YtemnjalaincijaaGreat
set_option linter.unusedSimpArgs false
set_option linter.unusedVariables false
set_option maxRecDepth 8000
open Go.Ev
theorem gam_run (a b c : Nat) (to : Int) (ha : 1 ≤ a) (hb : 1 ≤ b) (h1 : c = 0 ∨ ((a + (c - 1) * b : Nat) : Int) ≤ to) (h2 : to < ((a + c * b : Nat) : Int)) (hto : to ≤ 1073741824) (hto0 : -9223372036854775808 ≤ to) (hc : c ≤ 1048576) (hab : a ≤ 1073741824) (hbb : b ≤ 1073741824) :
    Go.Ev.Fn CX 233 [.int .i64 (a : Int), .int .i64 (b : Int), .int .i64 to] (natV (lim (prodN a b c))) := by
  have hle : ∀ i, i < c → ((a + i * b : Nat) : Int) ≤ to := by
    intro i hi
    rcases h1 with h | h
    · omega
    · have : i * b ≤ (c - 1) * b := Nat.mul_le_mul_right _ (by omega)
      omega
  have hlen : ∀ i, i ≤ c → (lim (prodN a b i)).length ≤ i + 1 := fun i hi => prodN_len fun j hj => by have := hle j (by omega); omega
  have o1 := nat_Of 1 (by omega)
  refine Go.Ev.Fn.intro (fn := Tryz.f233) (body := (Tryz.f233).body.get!) (by kernel_rfl) (by kernel_rfl) (by kernel_rfl) (fun _ => rfl) (Nat.le_of_ble_eq_true (by kernel_rfl)) ?_; unfold Tryz.f233; simp only [Option.get!_some]
  repeat (first | (simp only [go_sem, Nat.reduceEqDiff, Nat.reduceAdd, Nat.reduceSub, Nat.reduceMul, Nat.reduceLeDiff, Nat.reduceLT, reduceIte, reduceCtorEq, Nat.succ_ne_zero, elemsC, Int.reduceToNat, Nat.reducePow]) | (simp (disch := (first | omega | (simp only [AL, List.length_map]; omega))) only [AR, AL, ifT, ifF, take_all, List.length_cons, List.length_nil, Int.reduceToNat, Int.reducePow, Nat.reducePow]) | (refine wk_intro (by kernel_rfl) ?_) | (refine vf_of (by first | exact o1) ?_))
  refine vp_loop_inv (fun s => s.tmp 1 = .sv (.int .i64 (b : Int)) ∧ s.tmp 2 = .sv (.int .i64 to) ∧ ∃ i : Nat, s.tmp 8 = .sv (.int .i64 ((a + i * b : Nat) : Int)) ∧ s.tmp 7 = .sv (natV (lim (prodN a b i))) ∧ i ≤ c)
    (fun s => match s.tmp 8 with | .sv (.int _ n) => (to + 1 - n).toNat | _ => 0) ⟨rfl, rfl, 0, by rw [Nat.zero_mul, Nat.add_zero]; rfl, rfl, by omega⟩ ?_
  rintro s ⟨i1, i2, i, i8, i7, hi⟩
  by_cases hend : i = c
  · subst hend
    have hlt : ¬ ((a + i * b : Nat) : Int) ≤ to := by omega
    repeat (first | (simp only [go_sem, Nat.reduceEqDiff, Nat.reduceAdd, Nat.reduceSub, Nat.reduceMul, Nat.reduceLeDiff, Nat.reduceLT, reduceIte, reduceCtorEq, Nat.succ_ne_zero, elemsC, Int.reduceToNat, Nat.reducePow, i1, i2, i8, i7]) | (simp (disch := (first | omega | (simp only [AL, List.length_map]; omega))) only [AR, AL, ifT, ifF, take_all, List.length_cons, List.length_nil, Int.reduceToNat, Int.reducePow, Nat.reducePow, i1, i2, i8, i7]) | (refine wk_intro (by kernel_rfl) ?_))
  · have h3 := hle i (by omega)
    have hl := hlen i hi
    have oN := nat_Of (a + i * b) (by omega)
    have hl2 := lim_len_one (a := a + i * b) (by omega)
    have hn : a + (i + 1) * b = a + i * b + b := by rw [Nat.add_mul, Nat.one_mul, Nat.add_assoc]
    have hnew : prodN a b (i + 1) = prodN a b i * (a + i * b) := rfl
    generalize hv : a + i * b = v at *
    repeat (first | (simp only [go_sem, Nat.reduceEqDiff, Nat.reduceAdd, Nat.reduceSub, Nat.reduceMul, Nat.reduceLeDiff, Nat.reduceLT, reduceIte, reduceCtorEq, Nat.succ_ne_zero, elemsC, Int.reduceToNat, Nat.reducePow, i1, i2, i8, i7]) | (simp (disch := (first | omega | (simp only [AL, List.length_map]; omega))) only [AR, AL, ifT, ifF, take_all, List.length_cons, List.length_nil, Int.reduceToNat, Int.reducePow, Nat.reducePow, i1, i2, i8, i7]) | (refine wk_intro (by kernel_rfl) ?_) | (refine vf_of (by first | exact oN) ?_))
    refine vf_of (nat_MulL (by omega) (by omega)) ?_; repeat (first | (simp only [go_sem, Nat.reduceEqDiff, Nat.reduceAdd, Nat.reduceSub, Nat.reduceMul, Nat.reduceLeDiff, Nat.reduceLT, reduceIte, reduceCtorEq, Nat.succ_ne_zero, elemsC, Int.reduceToNat, Nat.reducePow, i1, i2, i8, i7]) | (simp (disch := (first | omega | (simp only [AL, List.length_map]; omega))) only [AR, AL, ifT, ifF, take_all, List.length_cons, List.length_nil, Int.reduceToNat, Int.reducePow, Nat.reducePow, i1, i2, i8, i7]) | (refine wk_intro (by kernel_rfl) ?_))
    refine ⟨⟨i + 1, by rw [hn], by rw [hnew], by omega⟩, by omega⟩
theorem gam_whole (n : Nat) (hn : (lim n).length ≤ 536870912) : Go.Ev.Fn CX 232 [natV (lim n)] (rv (n : Rat)) := by
  have o1 := nat_Of 1 (by omega)
  have h1 := lim_len1
  have hOf := rat_OfL (s := false) (n := n) (d := 1) hn (by omega)
  rw [show mkRat (sgn false n) 1 = (n : Rat) from Rat.mkRat_one _] at hOf
  refine Go.Ev.Fn.intro (fn := Tryz.f232) (body := (Tryz.f232).body.get!) (by kernel_rfl) (by kernel_rfl) (by kernel_rfl) (fun _ => rfl) (Nat.le_of_ble_eq_true (by kernel_rfl)) ?_; unfold Tryz.f232; simp only [Option.get!_some]
  repeat (first | (simp only [go_sem, Nat.reduceEqDiff, Nat.reduceAdd, Nat.reduceSub, Nat.reduceMul, Nat.reduceLeDiff, Nat.reduceLT, reduceIte, reduceCtorEq, Nat.succ_ne_zero, elemsC, Int.reduceToNat, Nat.reducePow]) | (simp (disch := (first | omega | (simp only [AL, List.length_map]; omega))) only [AR, AL, ifT, ifF, take_all, List.length_cons, List.length_nil, Int.reduceToNat, Int.reducePow, Nat.reducePow]) | (refine wk_intro (by kernel_rfl) ?_) | (refine vf_of (by first | exact o1 | exact hOf) ?_))
theorem pow_len (m : Nat) : (lim (2 ^ m)).length ≤ m + 1 :=
  lim_len_lt (Nat.lt_of_lt_of_le (Nat.pow_lt_pow_right (by omega) (Nat.lt_succ_self m)) (Nat.pow_le_pow_left (by decide) (m + 1)))
theorem gam2_size {n : Nat} (h : n ≤ 1024) : szR (gam2 n) 1024 := by
  unfold gam2
  split
  · have h1 := prodN_len (a := 2) (b := 1) (c := n / 2 - 2) (fun i hi => by omega)
    refine ⟨?_, ?_⟩
    · show (lim ((prodN 2 1 (n / 2 - 2) : Nat) : Int).natAbs).length ≤ _
      rw [Int.natAbs_natCast]; omega
    · show (lim 1).length ≤ _
      have := lim_len1
      omega
  · have h1 := prodN_len (a := 3) (b := 2) (c := (n - 3) / 2) (fun i hi => by omega)
    have h2 := pow_len (n / 2)
    exact szR_mk (s := false) (by omega) (by omega) (by omega)
theorem gam_half (n : Nat) (h1 : 1 ≤ n) (h : n ≤ 1024) : Go.Ev.Fn CX 231 [.int .i64 (n : Int)] (rv (gam2 n)) := by
  have ha := and_one64 (a := n) (by omega)
  have hd : ((n : Int)).tdiv 2 = ((n / 2 : Nat) : Int) := rfl
  by_cases h0 : n % 2 = 0
  · have hr := gam_run 2 1 (n / 2 - 2) ((n / 2 - 1 : Nat) : Int) (by omega) (by omega) (by omega) (by omega) (by omega) (by omega) (by omega) (by omega) (by omega)
    have hl := prodN_len (a := 2) (b := 1) (c := n / 2 - 2) (fun i hi => by omega)
    have hw := gam_whole (prodN 2 1 (n / 2 - 2)) (by omega)
    rw [show gam2 n = ((prodN 2 1 (n / 2 - 2) : Nat) : Rat) from if_pos h0]
    rw [h0] at ha
    refine Go.Ev.Fn.intro (fn := Tryz.f231) (body := (Tryz.f231).body.get!) (by kernel_rfl) (by kernel_rfl) (by kernel_rfl) (fun _ => rfl) (Nat.le_of_ble_eq_true (by kernel_rfl)) ?_; unfold Tryz.f231; simp only [Option.get!_some]
    repeat (first | (simp only [go_sem, Nat.reduceEqDiff, Nat.reduceAdd, Nat.reduceSub, Nat.reduceMul, Nat.reduceLeDiff, Nat.reduceLT, reduceIte, reduceCtorEq, Nat.succ_ne_zero, elemsC, Int.reduceToNat, Nat.reducePow, ha, hd]) | (simp (disch := (first | omega | (simp only [AL, List.length_map]; omega))) only [AR, AL, ifT, ifF, take_all, List.length_cons, List.length_nil, Int.reduceToNat, Int.reducePow, Nat.reducePow, ha, hd]) | (refine wk_intro (by kernel_rfl) ?_) | (refine vf_of (by first | exact hr | exact hw) ?_))
  · have hr := gam_run 3 2 ((n - 3) / 2) ((n : Int) - 2) (by omega) (by omega) (by omega) (by omega) (by omega) (by omega) (by omega) (by omega) (by omega)
    have hl := prodN_len (a := 3) (b := 2) (c := (n - 3) / 2) (fun i hi => by omega)
    have o1 := nat_Of 1 (by omega)
    have l1 := lim_len1
    have hS := shift_up (lim 1) (n / 2) (okL_lim _) (by omega) ((n / 2 : Nat) : Int) rfl (by omega)
    rw [wth_lim, Nat.one_mul] at hS
    have hp := pow_len (n / 2)
    have hOf := rat_OfL (s := false) (n := prodN 3 2 ((n - 3) / 2)) (d := 2 ^ (n / 2)) (by omega) (by omega)
    rw [show gam2 n = mkRat (prodN 3 2 ((n - 3) / 2) : Nat) (2 ^ (n / 2)) from if_neg h0]
    have h01 : n % 2 = 1 := by omega
    rw [h01] at ha
    refine Go.Ev.Fn.intro (fn := Tryz.f231) (body := (Tryz.f231).body.get!) (by kernel_rfl) (by kernel_rfl) (by kernel_rfl) (fun _ => rfl) (Nat.le_of_ble_eq_true (by kernel_rfl)) ?_; unfold Tryz.f231; simp only [Option.get!_some]
    repeat (first | (simp only [go_sem, Nat.reduceEqDiff, Nat.reduceAdd, Nat.reduceSub, Nat.reduceMul, Nat.reduceLeDiff, Nat.reduceLT, reduceIte, reduceCtorEq, Nat.succ_ne_zero, elemsC, Int.reduceToNat, Nat.reducePow, ha, hd]) | (simp (disch := (first | omega | (simp only [AL, List.length_map]; omega))) only [AR, AL, ifT, ifF, take_all, List.length_cons, List.length_nil, Int.reduceToNat, Int.reducePow, Nat.reducePow, ha, hd]) | (refine wk_intro (by kernel_rfl) ?_) | (refine vf_of (by first | exact hr | exact o1 | exact hS | exact hOf) ?_))
    rfl
end Go.Proofs.YtemnjalaincijaaGreat

/- vernierlaw9.GamSteps, in the evaluator. -/
namespace Go.Proofs.YtemnjalaincijaaGreat
set_option linter.unusedSimpArgs false
set_option linter.unusedVariables false
set_option maxRecDepth 8000
open Go.Ev
end Go.Proofs.YtemnjalaincijaaGreat

/- vernierref9.Choose, in the evaluator. -/
namespace Go.Proofs.YtemnjalaincijaaGreat
set_option linter.unusedSimpArgs false
set_option linter.unusedVariables false
set_option maxRecDepth 8000
open Go.Ev
end Go.Proofs.YtemnjalaincijaaGreat

/- gam.Choose, Factorial, Beta; vernierlaw9.GamChooses and GamBetas, in the evaluator. -/
namespace Go.Proofs.YtemnjalaincijaaGreat
set_option linter.unusedSimpArgs false
set_option linter.unusedVariables false
set_option maxRecDepth 8000
open Go.Ev
theorem and_two (a b : Nat) : (a &&& b) % 2 = a % 2 * (b % 2) := by
  have h := Nat.and_mod_two_pow (a := a) (b := b) (n := 1)
  rw [Nat.pow_one] at h
  rw [h]
  rcases Nat.mod_two_eq_zero_or_one a with ha | ha <;> rcases Nat.mod_two_eq_zero_or_one b with hb | hb <;> rw [ha, hb] <;> rfl
theorem beta2_size {a b : Nat} (ha : a ≤ 512) (hb : b ≤ 512) : szR (beta2 a b) 3072 := by
  have z1 := gam2_size (n := a) (by omega)
  have z2 := gam2_size (n := b) (by omega)
  have z3 := gam2_size (n := a + b) (by omega)
  exact szR_div (szR_mul z1 z2 (by omega)) z3 (by omega) (by omega)
theorem gam_Beta (a b : Nat) (ha : 1 ≤ a) (ha2 : a ≤ 256) (hb : 1 ≤ b) (hb2 : b ≤ 256) : Go.Ev.Fn CX 228 [.int .i64 (a : Int), .int .i64 (b : Int)] (.tup [rv (beta2 a b), .int .i64 (a % 2 * (b % 2) : Nat), .bool true]) := by
  have g1 := gam_half a ha (by omega)
  have g2 := gam_half b hb (by omega)
  have g3 := gam_half (a + b) (by omega) (by omega)
  have z1 := gam2_size (n := a) (by omega)
  have z2 := gam2_size (n := b) (by omega)
  have z3 := gam2_size (n := a + b) (by omega)
  have m1 := rat_Mul (RatA_rv z1) (RatA_rv z2) (by omega) (by omega) (by omega)
  have d1 := rat_Div (RatA_rv (szR_mul z1 z2 (by omega))) (RatA_rv z3) (by omega) (by omega) (by omega)
  rw [decide_eq_true (gam2_pos (n := a + b)), show gam2 a * gam2 b / gam2 (a + b) = beta2 a b from rfl] at d1
  have hb1 := b_and64i (a := a) (b := b) (by omega) (by omega)
  have hle : a &&& b ≤ a := Nat.and_le_left
  have hb2 := and_one64 (a := a &&& b) (by omega)
  rw [and_two] at hb2
  refine Go.Ev.Fn.intro (fn := Tryz.f228) (body := (Tryz.f228).body.get!) (by kernel_rfl) (by kernel_rfl) (by kernel_rfl) (fun _ => rfl) (Nat.le_of_ble_eq_true (by kernel_rfl)) ?_; unfold Tryz.f228; simp only [Option.get!_some]
  repeat (first | (simp only [go_sem, Nat.reduceEqDiff, Nat.reduceAdd, Nat.reduceSub, Nat.reduceMul, Nat.reduceLeDiff, Nat.reduceLT, reduceIte, reduceCtorEq, Nat.succ_ne_zero, elemsC, Int.reduceToNat, Nat.reducePow, hb1, hb2]) | (simp (disch := (first | omega | (simp only [AL, List.length_map]; omega))) only [AR, AL, ifT, ifF, take_all, List.length_cons, List.length_nil, Int.reduceToNat, Int.reducePow, Nat.reducePow, hb1, hb2]) | (refine wk_intro (by kernel_rfl) ?_) | (refine vf_of (by first | exact g1 | exact g2 | exact m1 | exact g3 | exact d1) ?_))
end Go.Proofs.YtemnjalaincijaaGreat

/- Ways times chances: plain mathematics, no program. -/
namespace Go.Ev
end Go.Ev

/- Fractions of one denominator; the least count that is so likely: plain mathematics, no program. -/
namespace Go.Ev
theorem unit_num {x : Rat} (h0 : 0 ≤ x) (h1 : x ≤ 1) : x.num.natAbs ≤ x.den ∧ (x.num.natAbs : Int) = x.num := by
  have h2 := Rat.num_nonneg.2 h0
  have h3 := (Rat.le_iff x 1).1 h1
  rw [show (1 : Rat).den = 1 from rfl, show (1 : Rat).num = 1 from rfl] at h3
  omega
theorem den_pos (x : Rat) (n : Nat) : 0 < x.den ^ n := Nat.pow_pos (Nat.pos_of_ne_zero x.den_nz)
end Go.Ev

/- incb: power, first, row of whole numbers, in the evaluator. -/
namespace Go.Proofs.YtemnjalaincijaaGreat
set_option linter.unusedSimpArgs false
set_option linter.unusedVariables false
set_option maxRecDepth 8000
open Go.Ev
/-- A number's power, as incb tells it. -/
abbrev pwN (q : Rat) (A w : Nat) : Nat × Nat := powGo w 4 A (2 ^ w) (2 ^ w + 1) (unN q w) (unN q w + 1)
/-- A number of at most 1 has no more units than 1 has. -/
theorem unN_len1 {q : Rat} {w : Nat} (h0 : 0 ≤ q) (h1 : q ≤ 1) (hw : w ≤ 900) : (lim (unN q w)).length ≤ 49 ∧ (lim (unN q w + 1)).length ≤ 50 := by
  have h2 : q.num.natAbs ≤ q.den := (unit_num h0 h1).1
  have h3 : unN q w ≤ 2 ^ w := (Nat.div_le_iff_le_mul q.den_pos).2 (by
    have := Nat.mul_le_mul_right (2 ^ w) h2
    have := q.den_pos
    rw [Nat.mul_comm (2 ^ w)]; omega)
  have l1 := lim_len1
  have l := lim_len_p2 (w := w) h3 (by omega)
  have h4 := lim_len_add (a := unN q w) (b := 1) (L := 49) (by omega) (by omega)
  exact ⟨by omega, by omega⟩
theorem incb_power {q : Rat} {A w L : Nat} (hA : A ≤ 15) (hz : szR q L) (hL : L ≤ 300) (hu : (lim (unN q w)).length ≤ 49 ∧ (lim (unN q w + 1)).length ≤ 50) (hw : w ≤ 900) (hw0 : 0 < w) : Go.Ev.Fn CX 227 [.int .i64 (2 * (A : Int)), rv q, .int .i64 (w : Int)] (spanV (pwN q A w).1 (pwN q A w).2) := by
  have r : Go.Ev.Fn CX 128 [rv q, .int .i64 (w : Int)] (spanV (unN q w) (unN q w + 1)) := fix_Rat hz (by omega) (w := w) (by omega)
  obtain ⟨l1, l2⟩ := hu
  have p := fix_Power (a1 := unN q w) (a2 := unN q w + 1) (n := A) (w := w) (F := 4) (by omega) (by omega) (by omega) l2 (by omega) hw0
  have an := and_one64 (a := 2 * A) (by omega)
  rw [show 2 * A % 2 = 0 by omega, show ((2 * A : Nat) : Int) = 2 * (A : Int) by omega] at an
  have td : (2 * (A : Int)).tdiv 2 = (A : Int) := by
    rw [Int.mul_comm]; exact Int.mul_tdiv_cancel _ (by omega)
  have td2 : ((2 * A : Nat) : Int).tdiv 2 = (A : Int) := td
  generalize (pwN q A w).1 = x at *
  generalize (pwN q A w).2 = y at *
  generalize unN q w = u at *
  refine Go.Ev.Fn.intro (fn := Tryz.f227) (body := (Tryz.f227).body.get!) (by kernel_rfl) (by kernel_rfl) (by kernel_rfl) (fun _ => rfl) (Nat.le_of_ble_eq_true (by kernel_rfl)) ?_; unfold Tryz.f227; simp only [Option.get!_some]
  repeat (first | (simp only [go_sem, Nat.reduceEqDiff, Nat.reduceAdd, Nat.reduceSub, Nat.reduceMul, Nat.reduceLeDiff, Nat.reduceLT, reduceIte, reduceCtorEq, Nat.succ_ne_zero, elemsC, Int.reduceToNat, Nat.reducePow, an, td, td2]) | (simp (disch := (first | omega | (simp only [AL, List.length_map]; omega))) only [AR, AL, ifT, ifF, take_all, List.length_cons, List.length_nil, Int.reduceToNat, Int.reducePow, Nat.reducePow, an, td, td2]) | (refine wk_intro (by kernel_rfl) ?_) | (refine vp_draw (id := 4) (l := []) (by kernel_rfl) ?_) | (refine vf_of (by first | exact r | exact p) ?_))
theorem okS_un {q : Rat} {w : Nat} (h0 : 0 ≤ q) (h1 : q ≤ 1) : okS (2 ^ w) (unN q w) (unN q w + 1) 1 := by
  refine ⟨by omega, by omega, ?_⟩
  have h2 : q.num.natAbs ≤ q.den := (unit_num h0 h1).1
  have : unN q w ≤ 2 ^ w := (Nat.div_le_iff_le_mul q.den_pos).2 (by
    have := Nat.mul_le_mul_right (2 ^ w) h2
    have := q.den_pos
    rw [Nat.mul_comm (2 ^ w)]; omega)
  omega
theorem okS_pw {q : Rat} {A w : Nat} (h0 : 0 ≤ q) (h1 : q ≤ 1) (hw : 20 ≤ w) : okS (2 ^ w) (pwN q A w).1 (pwN q A w).2 511 := by
  have hP : 1000000 ≤ 2 ^ w := Nat.le_trans (by decide) (Nat.pow_le_pow_right (n := 2) (by omega) hw)
  exact powGo_ok hP 4 A _ _ _ _ 1 (by decide) ⟨by omega, by omega, by omega⟩ (okS_un h0 h1)
theorem okS_len {a b e w : Nat} (h : okS (2 ^ w) a b e) (he : e ≤ 100000) (hw : w ≤ 900) (hw0 : 20 ≤ w) : (lim a).length ≤ 40 ∧ (lim b).length ≤ 40 := by
  have hP : 1000000 ≤ 2 ^ w := Nat.le_trans (by decide) (Nat.pow_le_pow_right (n := 2) (by omega) hw0)
  have h2 : 2 ^ (w + 1) = 2 ^ w * 2 := Nat.pow_succ _ _
  exact ⟨lim_len_p2 (w := w + 1) (by have := h.1; have := h.2.2; omega) (by omega), lim_len_p2 (w := w + 1) (by have := h.2.2; omega) (by omega)⟩
end Go.Proofs.YtemnjalaincijaaGreat

/- Pi, to more digits: the kernel reckons arcs.pi and vernierref8.PiIv at the widths that beta's share wants. No program. -/
namespace Go.Ev
/-- Pi, times 2 to 700, rounded down. -/
def piW : Nat := 16525204305188294122575967610974940178026148430521517253674428844222689879174614411560235390899801560652737794125520858649187813498260676587492720299944119139547246105762461028318293173887444219654040121887534587
def piOk2 (p : Nat) : Bool := match piF (p + 64) with
  | some (lo, hi) => pin (lo / 2 ^ 64) fun a => Nat.beq a ((hi - 1) / 2 ^ 64) && (Nat.ble (a * 2 ^ (700 - p)) piW && Nat.ble piW ((a + 1) * 2 ^ (700 - p)))
  | none => false
theorem pi_ok2 : allFrom piOk2 81 300 = true := by kernel_rfl
end Go.Ev

/- fix: Ball, Inverse; incb.power of any halves, in the evaluator. -/
namespace Go.Proofs.YtemnjalaincijaaGreat
open Go.Ev
/-- A root's ball: as narrow as a unit. -/
theorem ball_okS {lo hi : Rat} {w : Nat} (h0 : 0 ≤ lo) (h1 : lo ≤ hi) (h2 : lo ≤ 1) (h3 : (hi - lo) * p2 w ≤ 1) : okS (2 ^ w) (unN lo w) (unN hi w + 1) 4 := by
  have P := p2_pos w
  have a := unN_le h0 w
  have b := unN_le (show 0 ≤ hi by grind) w
  have c := Rat.mul_le_mul_of_nonneg_right h2 (show 0 ≤ p2 w by grind)
  have d := Rat.mul_le_mul_of_nonneg_right h1 (show 0 ≤ p2 w by grind)
  have n1 : ((unN lo w + 1 : Nat) : Rat) = ((unN lo w : Nat) : Rat) + 1 := by exact_mod_cast rfl
  have n2 : ((unN lo w + 4 : Nat) : Rat) = ((unN lo w : Nat) : Rat) + 4 := by exact_mod_cast rfl
  have n3 : ((unN hi w + 1 : Nat) : Rat) = ((unN hi w : Nat) : Rat) + 1 := by exact_mod_cast rfl
  have n4 : ((2 ^ w + 4 : Nat) : Rat) = p2 w + 4 := by exact_mod_cast rfl
  refine ⟨?_, ?_, ?_⟩
  · have : ((unN lo w : Nat) : Rat) ≤ ((unN hi w + 1 : Nat) : Rat) := by grind
    exact_mod_cast this
  · have : ((unN hi w + 1 : Nat) : Rat) ≤ ((unN lo w + 4 : Nat) : Rat) := by rw [n2, n3]; grind
    exact_mod_cast this
  · have : ((unN hi w + 1 : Nat) : Rat) ≤ ((2 ^ w + 4 : Nat) : Rat) := by rw [n3, n4]; grind
    exact_mod_cast this
theorem okS_mul2 {P a b c d e g : Nat} (hP : 100000000 ≤ P) (he : e ≤ 10000) (hg : g ≤ 10000) (h : okS P a b e) (h2 : okS P c d g) : okS P (a * c / P) (b * d / P + 1) (2 * (e + g) + 2) := by
  obtain ⟨h1, h3, h4⟩ := h
  obtain ⟨k1, k3, k4⟩ := h2
  have hP0 : 0 < P := by omega
  have m1 := Nat.mul_le_mul h1 k1
  refine ⟨Nat.le_succ_of_le (Nat.div_le_div_right m1), ?_, ?_⟩
  · have d1 := Nat.div_add_mod (a * c) P
    have d2 := Nat.mod_lt (a * c) hP0
    have e1 : b * d ≤ a * c + (e * d + b * g) := by
      have x1 : b * d ≤ (a + e) * d := Nat.mul_le_mul_right d h3
      have x2 : a * d ≤ a * (c + g) := Nat.mul_le_mul_left a k3
      have x3 : a * g ≤ b * g := Nat.mul_le_mul_right g h1
      rw [Nat.add_mul] at x1
      rw [Nat.mul_add] at x2
      omega
    have e2 : e * d ≤ e * (2 * P) := Nat.mul_le_mul_left e (by omega)
    have e3 : b * g ≤ 2 * P * g := Nat.mul_le_mul_right g (by omega)
    have e4 : b * d < (a * c / P + (2 * (e + g) + 2)) * P := by
      have y1 : (a * c / P + (2 * (e + g) + 2)) * P = P * (a * c / P) + (e * (2 * P) + 2 * P * g + 2 * P) := by
        rw [Nat.add_mul, Nat.mul_comm _ P]
        congr 1
        grind
      omega
    have := (Nat.div_lt_iff_lt_mul hP0).2 e4
    omega
  · have e1 : b * d ≤ (P + e) * (P + g) := Nat.mul_le_mul h4 k4
    have e2 : (P + e) * (P + g) = P * P + (e + g) * P + e * g := by grind
    have e3 : e * g ≤ 10000 * 10000 := Nat.mul_le_mul he hg
    have e4 : b * d < (P + (e + g) + 2) * P := by
      have : (P + (e + g) + 2) * P = P * P + (e + g) * P + 2 * P := by rw [Nat.add_mul, Nat.add_mul]
      omega
    have := (Nat.div_lt_iff_lt_mul hP0).2 e4
    omega
end Go.Proofs.YtemnjalaincijaaGreat

/- incb.power and first of any halves, in the evaluator. -/
namespace Go.Proofs.YtemnjalaincijaaGreat
set_option linter.unusedSimpArgs false
set_option linter.unusedVariables false
set_option maxRecDepth 8000
open Go.Ev
set_option linter.unusedVariables false
theorem incb_pow {q : Rat} {n w L : Nat} (hn : n ≤ 30) (hz : szR q L) (hL1 : 1 ≤ L) (hL : L ≤ 250) (h0 : 0 ≤ q) (h1 : q ≤ 1) (hw : w ≤ 512) (hw0 : 60 ≤ w) :
    ∃ X1 X2 : Nat, ∃ s1 s2 : Rat, Go.Ev.Fn CX 227 [.int .i64 (n : Int), rv q, .int .i64 (w : Int)] (spanV X1 X2) ∧ okS (2 ^ w) X1 X2 1100 ∧ 0 ≤ s1 ∧ s1 ≤ s2 ∧ s1 * s1 ≤ q ∧ q ≤ s2 * s2 ∧
      ∀ s, s1 ≤ s → s ≤ s2 → Enc w X1 X2 (pwR q (n / 2) * (if n % 2 = 1 then s else 1)) := by
  have k1 := okS_pw (A := n / 2) (w := w) h0 h1 (by omega)
  have pe : Enc w (pwN q (n / 2) w).1 (pwN q (n / 2) w).2 (pwR q (n / 2)) := by
    have one : Enc w (2 ^ w) (2 ^ w + 1) 1 := by
      refine ⟨by rw [Rat.one_mul]; exact Rat.le_refl, ?_⟩
      rw [Rat.one_mul]
      exact_mod_cast Nat.le_succ (2 ^ w)
    have un : Enc w (unN q w) (unN q w + 1) q := by
      have := unN_le h0 w
      exact ⟨this.1, this.2⟩
    have h := powGo_enc 4 (n / 2) _ _ _ _ (by omega) one un
    rw [Rat.one_mul] at h
    exact h
  by_cases hod : n % 2 = 1
  · obtain ⟨lo, hi, f, g1, g2, g3, g4, g5, y1, y2⟩ := root_Sqrt (p := w) (RatA_rv hz) h0 hL1 (by omega) (by omega)
    have lo1 : lo ≤ 1 := by
      rcases Rat.le_total (a := lo) (b := 1) with g | g
      · exact g
      · have a1 := Rat.mul_le_mul_of_nonneg_left g g1
        grind
    have r : Go.Ev.Fn CX 128 [rv q, .int .i64 (w : Int)] (spanV (unN q w) (unN q w + 1)) := fix_Rat hz (by omega) (w := w) (by omega)
    obtain ⟨l1, l2⟩ := unN_len1 h0 h1 (show w ≤ 900 by omega)
    have p : Go.Ev.Fn CX 230 [spanV (unN q w) (unN q w + 1), .int .i64 ((n / 2 : Nat) : Int), .int .i64 (w : Int)] (spanV (pwN q (n / 2) w).1 (pwN q (n / 2) w).2) := fix_Power (a1 := unN q w) (a2 := unN q w + 1) (n := n / 2) (w := w) (F := 4) (by omega) (by omega) (by omega) l2 (by omega) (by omega)
    have bb := fix_Ball (w := w) y1 y2 (by omega) (by omega)
    have k2 := ball_okS (w := w) g1 g2 lo1 g5
    have hP : 2 ^ 60 ≤ 2 ^ w := Nat.pow_le_pow_right (n := 2) (by omega) hw0
    have k3 := okS_mul2 (by omega) (by omega) (by omega) k1 k2
    obtain ⟨a1, a2⟩ := okS_len k1 (by omega) (show w ≤ 900 by omega) (by omega)
    obtain ⟨b1, b2⟩ := okS_len k2 (by omega) (show w ≤ 900 by omega) (by omega)
    have mu := fix_Mul (a := (pwN q (n / 2) w).1) (b := (pwN q (n / 2) w).2) (c := unN lo w) (d := unN hi w + 1) (w := w) (by omega) (by omega) (by omega) (by omega) (by omega) (by omega)
    refine ⟨_, _, lo, hi, ?_, okS_mono k3 (by omega), g1, g2, g3, g4, ?_⟩
    · have an := and_one64 (a := n) (by omega)
      rw [hod] at an
      have td : (n : Int).tdiv 2 = ((n / 2 : Nat) : Int) := _root_.id rfl
      clear k1 k2 k3 pe g1 g2 g3 g4 g5
      generalize (pwN q (n / 2) w).1 * unN lo w / 2 ^ w = Z1 at *
      generalize (pwN q (n / 2) w).2 * (unN hi w + 1) / 2 ^ w + 1 = Z2 at *
      generalize (pwN q (n / 2) w).1 = x at *
      generalize (pwN q (n / 2) w).2 = y at *
      generalize unN hi w + 1 = u2 at *
      generalize unN lo w = u1 at *
      generalize unN q w = u at *
      refine Go.Ev.Fn.intro (fn := Tryz.f227) (body := (Tryz.f227).body.get!) (by kernel_rfl) (by kernel_rfl) (by kernel_rfl) (fun _ => rfl) (Nat.le_of_ble_eq_true (by kernel_rfl)) ?_; unfold Tryz.f227; simp only [Option.get!_some]
      repeat (first | (simp only [go_sem, Nat.reduceEqDiff, Nat.reduceAdd, Nat.reduceSub, Nat.reduceMul, Nat.reduceLeDiff, Nat.reduceLT, reduceIte, reduceCtorEq, Nat.succ_ne_zero, elemsC, Int.reduceToNat, Nat.reducePow, an, td]) | (simp (disch := (first | omega | (simp only [AL, List.length_map]; omega))) only [AR, AL, ifT, ifF, take_all, List.length_cons, List.length_nil, Int.reduceToNat, Int.reducePow, Nat.reducePow, an, td]) | (refine wk_intro (by kernel_rfl) ?_) | (refine vp_draw (id := 4) (l := []) (by kernel_rfl) ?_) | (refine vf_of (by first | exact r | exact p | exact f | exact bb | exact mu) ?_))
    · intro s hs1 hs2
      rw [if_pos hod]
      exact enc_mul pe (ball_enc g1 hs1 hs2 w)
  · have h := incb_power (A := n / 2) (w := w) (by omega) hz (by omega) (unN_len1 h0 h1 (show w ≤ 900 by omega)) (by omega) (by omega)
    rw [show 2 * ((n / 2 : Nat) : Int) = (n : Int) by omega] at h
    refine ⟨_, _, 0, 1, h, okS_mono k1 (by omega), Rat.le_refl, by decide, by rw [Rat.zero_mul]; exact h0, by rw [Rat.mul_one]; exact h1, ?_⟩
    intro s _ _
    rw [if_neg hod, Rat.mul_one]
    exact pe
/-- Pi, as the kernel has it. -/
def PI0 : Rat := mkRat (piW : Int) (2 ^ 700)
theorem mk_p2n (a p : Nat) : mkRat (a : Int) (2 ^ p) * p2 p = (a : Rat) := mk_mulP (a : Int) (Nat.pow_pos (by omega))
theorem PI0_mul : PI0 * p2 700 = (piW : Rat) := mk_p2n piW 700
theorem p2_plus (a b : Nat) : p2 (a + b) = p2 a * p2 b := by
  have : ((2 ^ a : Nat) : Rat) * ((2 ^ b : Nat) : Rat) = ((2 ^ a * 2 ^ b : Nat) : Rat) := by exact_mod_cast rfl
  show ((2 ^ (a + b) : Nat) : Rat) = ((2 ^ a : Nat) : Rat) * ((2 ^ b : Nat) : Rat)
  rw [this, Nat.pow_add]
theorem pi_lo {a p : Nat} (hp : p ≤ 700) (h : a * 2 ^ (700 - p) ≤ piW) : (a : Rat) ≤ PI0 * p2 p := by
  refine le_by (p2_pos (700 - p)) ?_
  have e : PI0 * p2 p * p2 (700 - p) = (piW : Rat) := by
    rw [← PI0_mul, Rat.mul_assoc, ← p2_plus, show p + (700 - p) = 700 by omega]
  rw [e]
  have e2 : (a : Rat) * p2 (700 - p) = ((a * 2 ^ (700 - p) : Nat) : Rat) := by exact_mod_cast rfl
  rw [e2]
  exact_mod_cast h
theorem pi_hi {a p : Nat} (hp : p ≤ 700) (h : piW ≤ a * 2 ^ (700 - p)) : PI0 * p2 p ≤ (a : Rat) := by
  refine le_by (p2_pos (700 - p)) ?_
  have e : PI0 * p2 p * p2 (700 - p) = (piW : Rat) := by
    rw [← PI0_mul, Rat.mul_assoc, ← p2_plus, show p + (700 - p) = 700 by omega]
  rw [e]
  have e2 : (a : Rat) * p2 (700 - p) = ((a * 2 ^ (700 - p) : Nat) : Rat) := by exact_mod_cast rfl
  rw [e2]
  exact_mod_cast h
/-- Pi, to as many digits as beta's share wants. -/
theorem arcs_Pi2 {p : Nat} (h1 : 300 ≤ p) (h2 : p ≤ 380) : ∃ a : Nat, Go.Ev.Fn CX 149 [.int .i64 (p : Int)] (ballR (mkRat (a : Int) (2 ^ p)) (mkRat ((a + 1 : Nat) : Int) (2 ^ p))) ∧ (a : Rat) ≤ PI0 * p2 p ∧ PI0 * p2 p ≤ ((a + 1 : Nat) : Rat) ∧ 2 * 2 ^ p ≤ a ∧ a ≤ 4 * 2 ^ p := by
  have h := allFrom_at pi_ok2 p h1 (by omega)
  unfold piOk2 at h
  split at h
  · rename_i lo hi hpi
    rw [pin_eq, Bool.and_eq_true, Bool.and_eq_true] at h
    obtain ⟨k1, k2, k3⟩ := h
    have k1 := Nat.eq_of_beq_eq_true k1
    have k2 := Nat.le_of_ble_eq_true k2
    have k3 := Nat.le_of_ble_eq_true k3
    obtain ⟨f, g1, g2⟩ := arcs_pi (by omega) (by omega) hpi
    have c := fix_Certain1 (p := p) (sp := 64) f (by omega) (by omega) (by omega) (by omega) (by omega) k1
    have hh := arcs_held (p : Int)
    rw [if_neg (by omega), if_neg (by omega)] at hh
    have sp : 2 ^ 700 = 2 ^ p * 2 ^ (700 - p) := by rw [← Nat.pow_add]; congr 1; omega
    have q0 : 0 < 2 ^ (700 - p) := Nat.pow_pos (by omega)
    have z3 : 3 * 2 ^ 700 ≤ piW := by decide +kernel
    have z4 : piW ≤ 4 * 2 ^ 700 := by decide +kernel
    have b1 : 2 * 2 ^ p ≤ lo / 2 ^ 64 := by
      have x1 : 3 * 2 ^ p * 2 ^ (700 - p) ≤ (lo / 2 ^ 64 + 1) * 2 ^ (700 - p) := by rw [Nat.mul_assoc, ← sp]; exact Nat.le_trans z3 k3
      have x2 := Nat.le_of_mul_le_mul_right x1 q0
      have x3 : 0 < 2 ^ p := Nat.pow_pos (by omega)
      omega
    have b2 : lo / 2 ^ 64 ≤ 4 * 2 ^ p := by
      have x1 : lo / 2 ^ 64 * 2 ^ (700 - p) ≤ 4 * 2 ^ p * 2 ^ (700 - p) := by rw [Nat.mul_assoc 4, ← sp]; exact Nat.le_trans k2 z4
      exact Nat.le_of_mul_le_mul_right x1 q0
    refine ⟨lo / 2 ^ 64, ?_, pi_lo (by omega) k2, pi_hi (by omega) k3, b1, b2⟩
    clear k2 k3 f hpi b1 b2 sp z3 z4
    generalize mkRat ((lo / 2 ^ 64 : Nat) : Int) (2 ^ p) = q1 at *
    generalize mkRat ((lo / 2 ^ 64 + 1 : Nat) : Int) (2 ^ p) = q2 at *
    refine Go.Ev.Fn.intro (fn := Tryz.f149) (body := (Tryz.f149).body.get!) (by kernel_rfl) (by kernel_rfl) (by kernel_rfl) (fun _ => rfl) (Nat.le_of_ble_eq_true (by kernel_rfl)) ?_; unfold Tryz.f149; simp only [Option.get!_some]
    repeat (first | (simp only [go_sem, Nat.reduceEqDiff, Nat.reduceAdd, Nat.reduceSub, Nat.reduceMul, Nat.reduceLeDiff, Nat.reduceLT, reduceIte, reduceCtorEq, Nat.succ_ne_zero, elemsC, Int.reduceToNat, Nat.reducePow]) | (simp (disch := (first | omega | (simp only [AL, List.length_map]; omega))) only [AR, AL, ifT, ifF, take_all, List.length_cons, List.length_nil, Int.reduceToNat, Int.reducePow, Nat.reducePow]) | (refine wk_intro (by kernel_rfl) ?_) | (refine vf_of (by first | exact hh | exact c) ?_))
  · cases h
theorem inv_gap {P a : Nat} (hP : 4 ≤ P) (ha : 2 * P ≤ a) : okS P (P * P / (a + 2)) (P * P / a + 1) 3 := by
  have u1 : P * P / (a + 2) ≤ P / 2 := by
    rw [Nat.div_le_iff_le_mul (by omega)]
    have h1 : 2 * (P * P) ≤ (P) * (a + 2) := by
      have := Nat.mul_le_mul_left P (show 2 * P ≤ a + 2 by omega)
      rw [Nat.mul_left_comm] at this
      exact this
    have h2 : P * (a + 2) ≤ (2 * (P / 2) + 1) * (a + 2) := Nat.mul_le_mul_right _ (by omega)
    have h3 : (2 * (P / 2) + 1) * (a + 2) = 2 * (P / 2 * (a + 2)) + (a + 2) := by rw [Nat.add_mul, Nat.mul_assoc, Nat.one_mul]
    omega
  have d1 := Nat.div_add_mod (P * P) (a + 2)
  have d2 := Nat.mod_lt (P * P) (show 0 < a + 2 by omega)
  generalize hu : P * P / (a + 2) = u at *
  have v1 : P * P / a ≤ u + 2 := by
    refine Nat.le_of_lt_succ ((Nat.div_lt_iff_lt_mul (by omega)).2 ?_)
    have e1 : (a + 2) * u = a * u + 2 * u := Nat.add_mul _ _ _
    have e2 : (u + 2).succ * a = a * u + 3 * a := by
      rw [show (u + 2).succ = u + 3 by omega, Nat.add_mul, Nat.mul_comm u a]
    omega
  refine ⟨?_, by omega, by omega⟩
  have := Nat.div_le_div_left (show a ≤ a + 2 by omega) (show 0 < a by omega) (a := P * P)
  omega
end Go.Proofs.YtemnjalaincijaaGreat

/- incb.first of any halves, in the evaluator. -/
namespace Go.Proofs.YtemnjalaincijaaGreat
set_option linter.unusedSimpArgs false
set_option linter.unusedVariables false
set_option maxRecDepth 8000
open Go.Ev
set_option linter.unusedVariables false
theorem gap_mul {P U1 U2 i1 i2 g T : Nat} (hP : 4 ≤ P) (h1 : U1 ≤ U2) (h2 : U2 ≤ U1 + g) (h3 : U2 ≤ T * P) (h : okS P i1 i2 3) : U1 * i1 / P ≤ U2 * i2 / P + 1 ∧ U2 * i2 / P + 1 ≤ U1 * i1 / P + (2 * g + 3 * T + 3) ∧ U2 * i2 / P + 1 ≤ 2 * (T * P) + 1 := by
  obtain ⟨k1, k2, k3⟩ := h
  have hP0 : 0 < P := by omega
  refine ⟨Nat.le_succ_of_le (Nat.div_le_div_right (Nat.mul_le_mul h1 k1)), ?_, ?_⟩
  · have d1 := Nat.div_add_mod (U1 * i1) P
    have d2 := Nat.mod_lt (U1 * i1) hP0
    have e1 : U2 * i2 ≤ U1 * i1 + (g * i2 + U2 * 3) := by
      have x1 : U2 * i2 ≤ (U1 + g) * i2 := Nat.mul_le_mul_right i2 h2
      have x2 : U1 * i2 ≤ U1 * (i1 + 3) := Nat.mul_le_mul_left U1 k2
      rw [Nat.add_mul] at x1
      rw [Nat.mul_add] at x2
      omega
    have e2 : g * i2 ≤ g * (2 * P) := Nat.mul_le_mul_left g (by omega)
    have e4 : U2 * i2 < (U1 * i1 / P + (2 * g + 3 * T + 1)) * P := by
      have y1 : (U1 * i1 / P + (2 * g + 3 * T + 1)) * P = P * (U1 * i1 / P) + (g * (2 * P) + 3 * (T * P) + P) := by
        rw [Nat.add_mul, Nat.mul_comm _ P]
        congr 1
        grind
      omega
    have := (Nat.div_lt_iff_lt_mul hP0).2 e4
    omega
  · have e1 : U2 * i2 ≤ U2 * (2 * P) := Nat.mul_le_mul_left _ (by omega)
    have e2 : U2 * (2 * P) ≤ T * P * (2 * P) := Nat.mul_le_mul_right _ h3
    have e3 : T * P * (2 * P) = 2 * (T * P) * P := by grind
    have : U2 * i2 / P ≤ 2 * (T * P) := Nat.div_le_of_le_mul (by rw [Nat.mul_comm P]; omega)
    omega
/-- A whole number of units. -/
theorem unN_exact (A w : Nat) : unN (mkRat (A : Int) (2 ^ w)) w = A := by
  have y1 := mk_p2n A w
  have PW := p2_pos w
  have m0 : 0 ≤ mkRat (A : Int) (2 ^ w) := le_by PW (by rw [y1, Rat.zero_mul]; exact nat_nonneg A)
  generalize mkRat (A : Int) (2 ^ w) = q at *
  have h := num_den q
  have h2 : ((q.num.natAbs : Nat) : Rat) = (q.num : Rat) := by
    have : (q.num.natAbs : Int) = q.num := Int.natAbs_of_nonneg (Rat.num_nonneg.2 m0)
    rw [← this]; rfl
  have e : ((q.num.natAbs * 2 ^ w : Nat) : Rat) = ((A * q.den : Nat) : Rat) := by
    have c1 : ((q.num.natAbs * 2 ^ w : Nat) : Rat) = ((q.num.natAbs : Nat) : Rat) * p2 w := by exact_mod_cast rfl
    have c2 : ((A * q.den : Nat) : Rat) = (A : Rat) * (q.den : Rat) := by exact_mod_cast rfl
    rw [c1, c2, h2, ← h, ← y1]
    grind
  have e2 : q.num.natAbs * 2 ^ w = A * q.den := by exact_mod_cast e
  show q.num.natAbs * 2 ^ w / q.den = A
  rw [e2, Nat.mul_div_cancel _ q.den_pos]
def betOk (a b : Nat) : Bool := Nat.ble ((beta2 a b).den * 2) (1048576 * ((beta2 a b).num.natAbs * a)) && Nat.ble 1 (beta2 a b).num.natAbs
theorem bets_ok : (List.range 20).all (fun a => (List.range 20).all fun b => betOk (a + 1) (b + 1)) = true := by decide +kernel
theorem bet_ok {a b : Nat} (h1 : 1 ≤ a) (h2 : 1 ≤ b) (h3 : a ≤ 20) (h4 : b ≤ 20) : (beta2 a b).den * 2 ≤ 1048576 * ((beta2 a b).num.natAbs * a) ∧ 0 < (beta2 a b).num.natAbs * a := by
  have h := List.all_eq_true.1 bets_ok (a - 1) (List.mem_range.2 (by omega))
  have h' := List.all_eq_true.1 h (b - 1) (List.mem_range.2 (by omega))
  rw [show a - 1 + 1 = a by omega, show b - 1 + 1 = b by omega] at h'
  unfold betOk at h'
  rw [Bool.and_eq_true] at h'
  exact ⟨Nat.le_of_ble_eq_true h'.1, Nat.mul_pos (Nat.le_of_ble_eq_true h'.2) (by omega)⟩
/-- A row's first term, from points that the roots' balls have. -/
def fstR (a b : Nat) (x sx sy : Rat) : Rat :=
  (pwR x (a / 2) * (if a % 2 = 1 then sx else 1)) * (pwR (1 - x) (b / 2) * (if b % 2 = 1 then sy else 1)) * (((beta2 a b).den * 2 : Nat) : Rat) / (((beta2 a b).num.natAbs * a : Nat) : Rat) * (if a % 2 * (b % 2) = 1 then 1 / PI0 else 1)
set_option maxHeartbeats 1000000 in
theorem incb_fst {x : Rat} {a b w L : Nat} (ha : 1 ≤ a) (ha2 : a ≤ 20) (hb : 1 ≤ b) (hb2 : b ≤ 20) (hz : szR x L) (hL1 : 1 ≤ L) (hL : L ≤ 200) (h0 : 0 ≤ x) (h1 : x ≤ 1) (hw0 : 300 ≤ w) (hw : w ≤ 380) :
    ∃ F1 F2 : Nat, ∃ p1 p2' q1 q2 : Rat, Go.Ev.Fn CX 219 [.int .i64 (a : Int), .int .i64 (b : Int), rv x, .int .i64 (w : Int)] (spanV F1 F2) ∧ F1 ≤ F2 ∧ F2 ≤ F1 + 2 ^ 45 ∧ F2 ≤ 2 ^ (w + 25) ∧
      p1 ≤ p2' ∧ 0 ≤ p1 ∧ p1 * p1 ≤ x ∧ x ≤ p2' * p2' ∧ q1 ≤ q2 ∧ 0 ≤ q1 ∧ q1 * q1 ≤ 1 - x ∧ 1 - x ≤ q2 * q2 ∧
      ∀ sx sy, p1 ≤ sx → sx ≤ p2' → q1 ≤ sy → sy ≤ q2 → Enc w F1 F2 (fstR a b x sx sy) := by
  have one1 : szR 1 1 := ⟨lim_len_lt (by decide +kernel), lim_len_lt (by decide +kernel)⟩
  have zy := szR_sub one1 hz (by omega)
  obtain ⟨X1, X2, p1, p2', f1, k1, a0, a1, a2, a3, ex⟩ := incb_pow (n := a) (w := w) (by omega) hz hL1 (by omega) h0 h1 (by omega) (by omega)
  obtain ⟨Y1, Y2, q1, q2, f2, k2, b0, b1, b2, b3, ey⟩ := incb_pow (n := b) (w := w) (by omega) zy (by omega) (by omega) (show 0 ≤ 1 - x by clear f1 k1 ex; grind) (show 1 - x ≤ 1 by clear f1 k1 ex; grind) (by omega) (by omega)
  have i1 := rat_Int 1 (by omega)
  have sb := rat_Sub (RatA_rv one1) (RatA_rv hz) (by omega) hL1 (by omega)
  rw [show ((1 : Int) : Rat) = 1 from rfl] at i1
  have hP : 2 ^ 60 ≤ 2 ^ w := Nat.pow_le_pow_right (n := 2) (by omega) (by omega)
  obtain ⟨lx1, lx2⟩ := okS_len k1 (by omega) (show w ≤ 900 by omega) (by omega)
  obtain ⟨ly1, ly2⟩ := okS_len k2 (by omega) (show w ≤ 900 by omega) (by omega)
  have mu := fix_Mul (a := X1) (b := X2) (c := Y1) (d := Y2) (w := w) (by omega) (by omega) (by omega) (by omega) (by omega) (by omega)
  have k3 := okS_mul2 (by omega) (by omega) (by omega) k1 k2
  have em := fun sx sy (u1 : p1 ≤ sx) (u2 : sx ≤ p2') (v1 : q1 ≤ sy) (v2 : sy ≤ q2) => enc_mul (ex sx u1 u2) (ey sy v1 v2)
  generalize X1 * Y1 / 2 ^ w = M1 at *
  generalize X2 * Y2 / 2 ^ w + 1 = M2 at *
  obtain ⟨lm1, lm2⟩ := okS_len k3 (by omega) (show w ≤ 900 by omega) (by omega)
  have be := gam_Beta a b ha (by omega) hb (by omega)
  obtain ⟨c1, c2⟩ := bet_ok ha hb ha2 hb2
  obtain ⟨z1, z2⟩ := beta2_size (a := a) (b := b) (by omega) (by omega)
  have o2 := nat_Of 2 (by omega)
  have oa := nat_Of a (by omega)
  have l2 : (lim 2).length ≤ 1 := lim_len_one (by decide)
  have la : (lim a).length ≤ 1 := lim_len_one (by omega)
  have m1 := nat_MulL (N := (beta2 a b).den) (D := 2) (by omega) (by omega)
  have m2 := nat_MulL (N := (beta2 a b).num.natAbs) (D := a) (by omega) (by omega)
  have ln1 := lim_len_mul (a := (beta2 a b).den) (b := 2)
  have ln2 := lim_len_mul (a := (beta2 a b).num.natAbs) (b := a)
  have ti := fix_Times (a := M1) (b := M2) (n := (beta2 a b).den * 2) (d := (beta2 a b).num.natAbs * a) (by omega) (by omega) (by omega) (by omega) (by omega)
  have et := fun sx sy (u1 : p1 ≤ sx) (u2 : sx ≤ p2') (v1 : q1 ≤ sy) (v2 : sy ≤ q2) => enc_times (n := (beta2 a b).den * 2) (d := (beta2 a b).num.natAbs * a) c2 (em sx sy u1 u2 v1 v2)
  have gs := quo_sub (n := (beta2 a b).den * 2) (m := (beta2 a b).num.natAbs * a) k3.1 c2
  have gq := quo_le (v := M2 - M1) (n := (beta2 a b).den * 2) (m := (beta2 a b).num.natAbs * a) (c := 1048576) (d := 1) c2 (by omega)
  have gr := quo_le (v := M2) (n := (beta2 a b).den * 2) (m := (beta2 a b).num.natAbs * a) (c := 1048576) (d := 1) c2 (by omega)
  have gm : M1 * ((beta2 a b).den * 2) / ((beta2 a b).num.natAbs * a) ≤ M2 * ((beta2 a b).den * 2) / ((beta2 a b).num.natAbs * a) := Nat.div_le_div_right (Nat.mul_le_mul_right _ k3.1)
  have k31 := k3.1
  have k32 := k3.2.1
  have k33 := k3.2.2
  have hw25 : 2 ^ (w + 25) = 2 ^ w * 33554432 := by rw [Nat.pow_add]
  unfold fstR
  generalize hb2' : beta2 a b = be2 at *
  generalize hn2 : be2.den * 2 = D2 at *
  generalize hd2 : be2.num.natAbs * a = N2 at *
  generalize M1 * D2 / N2 = U1 at *
  generalize hU2 : M2 * D2 / N2 + 1 = U2 at *
  have gap : U2 ≤ U1 + 8589934592 := by omega
  have top : U2 ≤ 2097152 * 2 ^ w := by omega
  have hw46 : 2 ^ (w + 22) = 2097152 * 2 * 2 ^ w := by rw [Nat.pow_add, Nat.mul_comm]
  have lu2 := lim_len_p2 (n := U2) (w := w + 22) (by omega) (by omega)
  have lu1 := lim_len_mono (show U1 ≤ U2 by omega)
  by_cases hpi : a % 2 * (b % 2) = 1
  · obtain ⟨A, fp, g1, g2, g3, g4⟩ := arcs_Pi2 (p := w) hw0 hw
    generalize PI0 = W0 at *
    have u1 := unN_exact A w
    have u2 := unN_exact (A + 1) w
    have sA : szR (mkRat (A : Int) (2 ^ w)) 45 ∧ szR (mkRat ((A + 1 : Nat) : Int) (2 ^ w)) 45 := by
      have hb3 : 2 ^ (w + 3) = 8 * 2 ^ w := by rw [Nat.pow_add, Nat.mul_comm]
      have x1 := lim_len_p2 (n := A) (w := w + 3) (by omega) (by omega)
      have x2 := lim_len_p2 (n := A + 1) (w := w + 3) (by omega) (by omega)
      have x3 := lim_len_p2 (n := 2 ^ w) (w := w) (Nat.le_refl _) (by omega)
      exact ⟨szR_nat (by omega) (by omega) (by omega), szR_nat (by omega) (by omega) (by omega)⟩
    have bl := fix_Ball (w := w) sA.1 sA.2 (by omega) (by omega)
    rw [u1, u2] at bl
    have hb3 : 2 ^ (w + 3) = 8 * 2 ^ w := by rw [Nat.pow_add, Nat.mul_comm]
    have x1 := lim_len_p2 (n := A) (w := w + 3) (by omega) (by omega)
    have x2 := lim_len_p2 (n := A + 1 + 1) (w := w + 3) (by omega) (by omega)
    have iv := fix_Inverse (a := A) (b := A + 1 + 1) (w := w) (by omega) (by omega) (by omega) (by omega) (by omega)
    have pp : 2 ^ (2 * w) = 2 ^ w * 2 ^ w := by rw [← Nat.pow_add, show 2 * w = w + w by omega]
    have ig := inv_gap (P := 2 ^ w) (a := A) (by omega) g3
    have ePi : Enc w A (A + 1 + 1) W0 := ⟨g1, Rat.le_trans g2 (nat_le_rat (Nat.le_succ (A + 1)))⟩
    have ei := (enc_inv (show 0 < A by omega) ePi).1
    rw [pp] at iv ei
    rw [show A + 2 = A + 1 + 1 from rfl] at ig
    obtain ⟨t1, t2, t3⟩ := gap_mul (T := 2097152) (g := 8589934592) (by omega) (show U1 ≤ U2 by omega) gap top ig
    obtain ⟨li1, li2⟩ := okS_len ig (by omega) (show w ≤ 900 by omega) (by omega)
    have mu2 := fix_Mul (a := U1) (b := U2) (c := 2 ^ w * 2 ^ w / (A + 1 + 1)) (d := 2 ^ w * 2 ^ w / A + 1) (w := w) (by omega) (by omega) (by omega) (by omega) (by omega) (by omega)
    have ef := fun sx sy (u1 : p1 ≤ sx) (u2 : sx ≤ p2') (v1 : q1 ≤ sy) (v2 : sy ≤ q2) => enc_mul (et sx sy u1 u2 v1 v2) ei
    have be' : Go.Ev.Fn CX 228 [.int .i64 (a : Int), .int .i64 (b : Int)] (.tup [rv be2, .int .i64 1, .bool true]) := by
      rw [hpi] at be
      exact be
    refine ⟨U1 * (2 ^ w * 2 ^ w / (A + 1 + 1)) / 2 ^ w, U2 * (2 ^ w * 2 ^ w / A + 1) / 2 ^ w + 1, p1, p2', q1, q2, ?_, t1, by omega, by omega, a1, a0, a2, a3, b1, b0, b2, b3, ?_⟩
    · clear ex ey em et be ef ei ePi g1 g2 t1 t2 t3 ig
      generalize U1 * (2 ^ w * 2 ^ w / (A + 1 + 1)) / 2 ^ w = W1 at *
      generalize U2 * (2 ^ w * 2 ^ w / A + 1) / 2 ^ w + 1 = W2 at *
      generalize 2 ^ w * 2 ^ w / (A + 1 + 1) = I1 at *
      generalize 2 ^ w * 2 ^ w / A + 1 = I2 at *
      generalize mkRat (A : Int) (2 ^ w) = r1 at *
      generalize mkRat ((A + 1 : Nat) : Int) (2 ^ w) = r2 at *
      generalize 1 - x = y at *
      refine Go.Ev.Fn.intro (fn := Tryz.f219) (body := (Tryz.f219).body.get!) (by kernel_rfl) (by kernel_rfl) (by kernel_rfl) (fun _ => rfl) (Nat.le_of_ble_eq_true (by kernel_rfl)) ?_; unfold Tryz.f219; simp only [Option.get!_some]
      repeat (first | (simp only [go_sem, Nat.reduceEqDiff, Nat.reduceAdd, Nat.reduceSub, Nat.reduceMul, Nat.reduceLeDiff, Nat.reduceLT, reduceIte, reduceCtorEq, Nat.succ_ne_zero, elemsC, Int.reduceToNat, Nat.reducePow]) | (simp (disch := (first | omega | (simp only [AL, List.length_map]; omega))) only [AR, AL, ifT, ifF, take_all, List.length_cons, List.length_nil, Int.reduceToNat, Int.reducePow, Nat.reducePow]) | (refine wk_intro (by kernel_rfl) ?_) | (refine vp_draw (id := 1) (l := []) (by kernel_rfl) ?_) | (refine vp_draw (id := 3) (l := [34, 35, 38, 41, 36, 42]) (by kernel_rfl) ?_) | (refine vp_draw (id := 5) (l := []) (by kernel_rfl) ?_) | (refine vf_of (by first | exact f1 | exact i1 | exact sb | exact f2 | exact mu | exact be' | exact o2 | exact m1 | exact oa | exact m2 | exact ti | exact fp | exact bl | exact iv | exact mu2) ?_))
    · intro sx sy v1 v2 v3 v4
      rw [if_pos hpi]
      exact ef sx sy v1 v2 v3 v4
  · have be' : Go.Ev.Fn CX 228 [.int .i64 (a : Int), .int .i64 (b : Int)] (.tup [rv be2, .int .i64 0, .bool true]) := by
      have : a % 2 * (b % 2) = 0 := by
        have x1 : a % 2 ≤ 1 := by omega
        have x2 : b % 2 ≤ 1 := by omega
        have := Nat.mul_le_mul x1 x2
        omega
      rw [this] at be
      exact be
    refine ⟨U1, U2, p1, p2', q1, q2, ?_, by omega, by omega, by omega, a1, a0, a2, a3, b1, b0, b2, b3, ?_⟩
    · clear ex ey em et be
      generalize 1 - x = y at *
      refine Go.Ev.Fn.intro (fn := Tryz.f219) (body := (Tryz.f219).body.get!) (by kernel_rfl) (by kernel_rfl) (by kernel_rfl) (fun _ => rfl) (Nat.le_of_ble_eq_true (by kernel_rfl)) ?_; unfold Tryz.f219; simp only [Option.get!_some]
      repeat (first | (simp only [go_sem, Nat.reduceEqDiff, Nat.reduceAdd, Nat.reduceSub, Nat.reduceMul, Nat.reduceLeDiff, Nat.reduceLT, reduceIte, reduceCtorEq, Nat.succ_ne_zero, elemsC, Int.reduceToNat, Nat.reducePow]) | (simp (disch := (first | omega | (simp only [AL, List.length_map]; omega))) only [AR, AL, ifT, ifF, take_all, List.length_cons, List.length_nil, Int.reduceToNat, Int.reducePow, Nat.reducePow]) | (refine wk_intro (by kernel_rfl) ?_) | (refine vp_draw (id := 1) (l := []) (by kernel_rfl) ?_) | (refine vp_draw (id := 3) (l := [34, 35, 38, 41, 36, 42]) (by kernel_rfl) ?_) | (refine vp_draw (id := 5) (l := []) (by kernel_rfl) ?_) | (refine vf_of (by first | exact f1 | exact i1 | exact sb | exact f2 | exact mu | exact be' | exact o2 | exact m1 | exact oa | exact m2 | exact ti) ?_))
    · intro sx sy v1 v2 v3 v4
      rw [if_neg hpi, Rat.mul_one]
      exact et sx sy v1 v2 v3 v4
end Go.Proofs.YtemnjalaincijaaGreat

/- incb.row of any halves, in the evaluator. -/
namespace Go.Proofs.YtemnjalaincijaaGreat
set_option linter.unusedSimpArgs false
set_option linter.unusedVariables false
set_option maxRecDepth 8000
open Go.Ev
set_option linter.unusedVariables false
section
variable {x : Rat} {a b w F1 F2 : Nat}
theorem half_units (h0 : 0 ≤ x) (h1 : x + x ≤ 1) : 2 * unN x w ≤ 2 ^ w := by
  have h2 : 2 * x.num.natAbs ≤ x.den := by
    have := num_den x
    have d0 : (0 : Rat) < (x.den : Rat) := by exact_mod_cast x.den_pos
    have h3 := Rat.mul_le_mul_of_nonneg_right h1 (show (0 : Rat) ≤ (x.den : Rat) by grind)
    have h4 : (x.num : Rat) + (x.num : Rat) ≤ (x.den : Rat) := by grind
    have h5 : ((x.num + x.num : Int) : Rat) ≤ (((x.den : Nat) : Int) : Rat) := by rw [Rat.intCast_add]; exact h4
    have h6 := Rat.intCast_le_intCast.1 h5
    have h7 := Rat.num_nonneg.2 h0
    omega
  have h3 := Nat.div_mul_le_self (x.num.natAbs * 2 ^ w) x.den
  have h4 := Nat.mul_le_mul_right (2 ^ w) h2
  have h5 : 2 * unN x w * x.den ≤ 2 ^ w * x.den := by
    have e1 : 2 * unN x w * x.den = 2 * (x.num.natAbs * 2 ^ w / x.den * x.den) := by rw [Nat.mul_assoc]
    have e2 : 2 * x.num.natAbs * 2 ^ w = 2 * (x.num.natAbs * 2 ^ w) := by rw [Nat.mul_assoc]
    rw [Nat.mul_comm (2 ^ w)]
    omega
  exact Nat.le_of_mul_le_mul_right h5 x.den_pos
theorem fst_ok (h1 : F1 ≤ F2) (h2 : F2 ≤ F1 + 2 ^ 45) (h3 : F2 ≤ 2 ^ (w + 25)) : okK w b (2 ^ (w + 25)) (2 ^ 69) 0 F1 F2 F1 F2 := by
  unfold okK
  rw [Nat.zero_min, Nat.pow_zero, Nat.one_mul, Nat.one_mul]
  refine ⟨?_, ?_, ?_, ?_, ?_, ?_⟩ <;> omega
theorem rowC_le (hb2 : b ≤ 20) : 4 ^ b * 2 ^ (w + 25) ≤ 2 ^ 65 * 2 ^ w ∧ 4 ^ b * 2 ^ 69 ≤ 2 ^ 109 := by
  have h40 : 4 ^ b ≤ 4 ^ 20 := Nat.pow_le_pow_right (by omega) hb2
  have hp : 2 ^ (w + 25) = 2 ^ 25 * 2 ^ w := by rw [Nat.pow_add, Nat.mul_comm]
  constructor
  · rw [hp, ← Nat.mul_assoc]
    exact Nat.mul_le_mul_right _ (Nat.le_trans (Nat.mul_le_mul_right _ h40) (by decide))
  · exact Nat.le_trans (Nat.mul_le_mul_right _ h40) (by decide)
/-- The row ends. -/
theorem rowh_ends (ha : 1 ≤ a) (hb2 : b ≤ 20) (h0 : 0 ≤ x) (h1 : x + x ≤ 1) (hw0 : 60 ≤ w) (hw : w ≤ 400) (g1 : F1 ≤ F2) (g2 : F2 ≤ F1 + 2 ^ 45) (g3 : F2 ≤ 2 ^ (w + 25)) : ∃ A B K, rowGo w (unN x w) (unN x w + 1) a b 2201 0 F1 F2 F1 F2 = some (A, B, K) := by
  have hP : 2 ^ 60 ≤ 2 ^ w := Nat.pow_le_pow_right (n := 2) (by omega) hw0
  have hy := half_units (w := w) h0 h1
  have ok := fst_ok (b := b) g1 g2 g3
  unfold okK at ok
  rw [Nat.zero_min, Nat.pow_zero, Nat.one_mul, Nat.one_mul] at ok
  have hC := (rowC_le (w := w) hb2).1
  have hp : 2 ^ (w + 25) = 2 ^ w * 33554432 := by rw [Nat.pow_add]
  have hF : 4 ^ 2000 * (4 ^ b * 2 ^ (w + 25)) < 8 * 5 ^ 2000 := by
    obtain ⟨E, hE⟩ : ∃ E : Nat, E = 465 := ⟨_, rfl⟩
    have h49 : 2 ^ 65 * 2 ^ w ≤ 2 ^ E := by rw [← Nat.pow_add]; exact Nat.pow_le_pow_right (by omega) (by omega)
    obtain ⟨N4, hN4⟩ : ∃ N, N = 4 ^ 2000 := ⟨_, rfl⟩
    obtain ⟨N5, hN5⟩ : ∃ N, N = 5 ^ 2000 := ⟨_, rfl⟩
    rw [← hN4, ← hN5]
    have hk : N4 * 2 ^ E < 8 * N5 := by rw [hN4, hN5, hE]; decide +kernel
    exact Nat.lt_of_le_of_lt (Nat.mul_le_mul_left _ (Nat.le_trans hC h49)) hk
  exact row_early (a := a) (b := b) (F := 2000) (C := 2 ^ 65) (by omega) rfl hy ha hb2 b 0 _ _ _ _ _ _ (by omega) (by omega) hC (by decide) hF ok
theorem rowh_bd {A B K : Nat} (ha : 1 ≤ a) (hb2 : b ≤ 20) (h0 : 0 ≤ x) (h1 : x + x ≤ 1) (hw0 : 60 ≤ w) (g1 : F1 ≤ F2) (g2 : F2 ≤ F1 + 2 ^ 45) (g3 : F2 ≤ 2 ^ (w + 25))
    (hg : rowGo w (unN x w) (unN x w + 1) a b 2201 0 F1 F2 F1 F2 = some (A, B, K)) : A ≤ B ∧ B ≤ A + 2 ^ 121 ∧ B ≤ 2 ^ (w + 77) := by
  have hP : 2 ^ 60 ≤ 2 ^ w := Nat.pow_le_pow_right (n := 2) (by omega) hw0
  have hp : 2 ^ (w + 25) = 2 ^ w * 33554432 := by rw [Nat.pow_add]
  obtain ⟨hC, hD⟩ := rowC_le (w := w) hb2
  obtain ⟨i1, i2, i3, i4⟩ := row_inv (a := a) (b := b) (C := 2 ^ 65) (by omega) rfl (half_units (w := w) h0 h1) ha hb2 (by omega) hC (by decide) 2201 0 _ _ _ _ hg (fst_ok g1 g2 g3)
  have b1 : (K + 1) * (4 ^ b * 2 ^ 69) ≤ 2201 * 2 ^ 109 := Nat.mul_le_mul (by omega) hD
  have b2 : (K + 1) * (4 ^ b * 2 ^ (w + 25)) ≤ 2201 * (2 ^ 65 * 2 ^ w) := Nat.mul_le_mul (by omega) hC
  have b3 : 2 ^ (w + 77) = 4096 * (2 ^ 65 * 2 ^ w) := by rw [show w + 77 = 12 + (65 + w) by omega, Nat.pow_add 2 12, Nat.pow_add 2 65]
  have b4 : 64 ≤ 2 ^ 65 * 2 ^ w := Nat.le_trans (by decide) (Nat.le_mul_of_pos_right (2 ^ 65) (by omega))
  omega
set_option maxHeartbeats 1000000 in
theorem incb_rowh {L A' B' K : Nat} (ha : 1 ≤ a) (ha2 : a ≤ 20) (hb : 1 ≤ b) (hb2 : b ≤ 20) (hz : szR x L) (hL : L ≤ 300) (h0 : 0 ≤ x) (h1 : x + x ≤ 1) (hw0 : 60 ≤ w) (hw : w ≤ 400)
    (fi : Go.Ev.Fn CX 219 [.int .i64 (a : Int), .int .i64 (b : Int), rv x, .int .i64 (w : Int)] (spanV F1 F2)) (g1 : F1 ≤ F2) (g2 : F2 ≤ F1 + 2 ^ 45) (g3 : F2 ≤ 2 ^ (w + 25))
    (hg : rowGo w (unN x w) (unN x w + 1) a b 2201 0 F1 F2 F1 F2 = some (A', B', K)) :
    Go.Ev.Fn CX 197 [.int .i64 (a : Int), .int .i64 (b : Int), rv x, .int .i64 (w : Int)] (spanV A' B') := by
  have hP : 2 ^ 60 ≤ 2 ^ w := Nat.pow_le_pow_right (n := 2) (by omega) hw0
  have hp25 : 2 ^ (w + 25) = 2 ^ w * 33554432 := by rw [Nat.pow_add]
  have hy := half_units (w := w) h0 h1
  have r : Go.Ev.Fn CX 128 [rv x, .int .i64 (w : Int)] (spanV (unN x w) (unN x w + 1)) := fix_Rat hz (by omega) (w := w) (by omega)
  obtain ⟨ly1, ly2⟩ := unN_len1 h0 (show x ≤ 1 by clear r hy; grind) (show w ≤ 900 by omega)
  have ok := fst_ok (b := b) g1 g2 g3
  have hC := (rowC_le (w := w) hb2).1
  have e65 : 2 ^ (w + 65) = 2 ^ 65 * 2 ^ w := by rw [Nat.pow_add, Nat.mul_comm]
  have step := fun (k t1 t2 a1 a2 : Nat) (h : okK w b (2 ^ (w + 25)) (2 ^ 69) k t1 t2 a1 a2) => okK_step (a := a) (y1 := unN x w) (y2 := unN x w + 1) (C := 2 ^ 65) (by omega) rfl hy ha hb2 (by omega) hC (by decide) h
  have lens := fun (k t1 t2 a1 a2 : Nat) (hk : k ≤ 2201) (h : okK w b (2 ^ (w + 25)) (2 ^ 69) k t1 t2 a1 a2) => (show (lim t1).length ≤ 40 ∧ (lim t2).length ≤ 40 ∧ (lim a1).length ≤ 40 ∧ (lim a2).length ≤ 40 from by
    obtain ⟨q1, q2, q3, q4, q5, q6⟩ := h
    have f := (four_le (k := k) (b := b) (T := 2 ^ (w + 25))).2
    have b1 : (k + 1) * (4 ^ min k b * 2 ^ (w + 25)) ≤ 4096 * 2 ^ (w + 65) := Nat.mul_le_mul (by omega) (Nat.le_trans f (by rw [e65]; exact hC))
    have b2 : 4096 * 2 ^ (w + 65) = 2 ^ (w + 77) := by rw [show w + 77 = 12 + (w + 65) by omega, Nat.pow_add 2 12]
    have b3 : 2 ^ (w + 65) ≤ 2 ^ (w + 77) := Nat.pow_le_pow_right (by omega) (by omega)
    have b5 : 4 ^ min k b * 2 ^ (w + 25) ≤ 2 ^ (w + 65) := Nat.le_trans f (by rw [e65]; exact hC)
    exact ⟨lim_len_p2 (w := w + 77) (by omega) (by omega), lim_len_p2 (w := w + 77) (by omega) (by omega), lim_len_p2 (w := w + 77) (by omega) (by omega), lim_len_p2 (w := w + 77) (by omega) (by omega)⟩)
  generalize unN x w = y1 at *
  clear hz h0 h1
  refine Go.Ev.Fn.intro (fn := Tryz.f197) (body := (Tryz.f197).body.get!) (by kernel_rfl) (by kernel_rfl) (by kernel_rfl) (fun _ => rfl) (Nat.le_of_ble_eq_true (by kernel_rfl)) ?_; unfold Tryz.f197; simp only [Option.get!_some]
  repeat (first | (simp only [go_sem, Nat.reduceEqDiff, Nat.reduceAdd, Nat.reduceSub, Nat.reduceMul, Nat.reduceLeDiff, Nat.reduceLT, reduceIte, reduceCtorEq, Nat.succ_ne_zero, elemsC, Int.reduceToNat, Nat.reducePow]) | (simp (disch := (first | omega | (simp only [AL, List.length_map]; omega))) only [AR, AL, ifT, ifF, take_all, List.length_cons, List.length_nil, Int.reduceToNat, Int.reducePow, Nat.reducePow]) | (refine wk_intro (by kernel_rfl) ?_) | (refine vf_of (by first | exact r | exact fi) ?_))
  refine vp_loop_inv (fun s => s.tmp 0 = .sv (.int .i64 (a : Int)) ∧ s.tmp 1 = .sv (.int .i64 (b : Int)) ∧ s.tmp 3 = .sv (.int .i64 (w : Int)) ∧ s.tmp 8 = .ptr 8 0 0 ∧ s.obj 8 0 = some [.sl 0 [], .sl 0 []] ∧ s.tmp 9 = .ptr 9 0 0 ∧ s.obj 9 0 = some [natV (lim y1), natV (lim (y1 + 1))] ∧ s.tmp 10 = .ptr 10 0 0 ∧ s.tmp 11 = .ptr 11 0 0 ∧
      ∃ f k t1 t2 a1 a2 : Nat, s.tmp 12 = .sv (.int .i64 (k : Int)) ∧ f + k = 2201 ∧ rowGo w y1 (y1 + 1) a b f k t1 t2 a1 a2 = some (A', B', K) ∧ s.obj 10 0 = some [natV (lim t1), natV (lim t2)] ∧ s.obj 11 0 = some [natV (lim a1), natV (lim a2)] ∧
        okK w b (2 ^ (w + 25)) (2 ^ 69) k t1 t2 a1 a2)
    (fun s => match s.tmp 12 with | .sv (.int _ i) => 2202 - i.toNat | _ => 0) ⟨rfl, rfl, rfl, rfl, rfl, rfl, rfl, rfl, rfl, 2201, 0, F1, F2, F1, F2, rfl, rfl, hg, rfl, rfl, ok⟩ ?_
  rintro s ⟨i0, i1, i3, i8, o8, i9, o9, i10, i11, f, k, t1, t2, a1, a2, i12, hfk, hgo, o10, o11, hok⟩
  obtain ⟨lt1, lt2, la1, la2⟩ := lens k t1 t2 a1 a2 (by omega) hok
  have st := step k t1 t2 a1 a2 hok
  have sm := fix_Small (a := t1) (b := t2) (by omega) (k := 3) (by omega)
  clear hP hp25 e65 hC g1 g2 g3
  cases f with
  | zero => simp only [rowGo] at hgo; cases hgo
  | succ f =>
    rw [rowGo] at hgo
    by_cases hs : b ≤ k ∧ t2 < 8
    · rw [if_pos hs] at hgo
      simp only [Option.some.injEq, Prod.mk.injEq] at hgo
      obtain ⟨rfl, rfl, rfl⟩ := hgo
      rw [decide_eq_true (show t2 < 2 ^ 3 from hs.2)] at sm
      have hs1 := hs.1
      have wd := fix_Wider (a := a1) (b := a2) (n := 64) (by omega) (by omega) (by omega)
      clear step lens st hs hg
      repeat (first | (simp only [go_sem, Nat.reduceEqDiff, Nat.reduceAdd, Nat.reduceSub, Nat.reduceMul, Nat.reduceLeDiff, Nat.reduceLT, reduceIte, reduceCtorEq, Nat.succ_ne_zero, elemsC, Int.reduceToNat, Nat.reducePow, i0, i1, i3, i8, o8, i9, o9, i10, i11, i12, o10, o11, Bool.not_true]) | (simp (disch := (first | omega | (simp only [AL, List.length_map]; omega))) only [AR, AL, ifT, ifF, take_all, List.length_cons, List.length_nil, Int.reduceToNat, Int.reducePow, Nat.reducePow, i0, i1, i3, i8, o8, i9, o9, i10, i11, i12, o10, o11, Bool.not_true]) | (refine wk_intro (by kernel_rfl) ?_) | (refine vf_of (by first | exact sm | exact wd) ?_))
    · rw [if_neg hs] at hgo
      obtain ⟨lu1, lu2, lb1, lb2⟩ := lens (k + 1) _ _ _ _ (by omega) st
      have mu := fix_Mul (a := t1) (b := t2) (c := y1) (d := y1 + 1) (w := w) (by omega) (by omega) (by omega) (by omega) (by omega) (by omega)
      have q1 := nat_Of (a + b + 2 * k) (by omega)
      have q2 := nat_Of (a + 2 + 2 * k) (by omega)
      have lq1 : (lim (a + b + 2 * k)).length ≤ 1 := lim_len_one (by omega)
      have lq2 : (lim (a + 2 + 2 * k)).length ≤ 1 := lim_len_one (by omega)
      have z1 := lim_len_mul (a := t1) (b := y1)
      have z2 := lim_len_mul (a := t2) (b := y1 + 1)
      have z3 := lim_len_mono (Nat.div_le_self (t1 * y1) (2 ^ w))
      have l1 := lim_len1
      have z4 := lim_len_add (a := t2 * (y1 + 1) / 2 ^ w) (b := 1) (L := 200) (Nat.le_trans (lim_len_mono (Nat.div_le_self (t2 * (y1 + 1)) (2 ^ w))) (by omega)) (by omega)
      have ti := fix_Times (a := t1 * y1 / 2 ^ w) (b := t2 * (y1 + 1) / 2 ^ w + 1) (n := a + b + 2 * k) (d := a + 2 + 2 * k) (by omega) (by omega) (by omega) (by omega) (by omega)
      rw [show ((a + b + 2 * k : Nat) : Int) = (a : Int) + (b : Int) + 2 * (k : Int) by omega] at q1
      rw [show ((a + 2 + 2 * k : Nat) : Int) = (a : Int) + 2 + 2 * (k : Int) by omega] at q2
      generalize t1 * y1 / 2 ^ w * (a + b + 2 * k) / (a + 2 + 2 * k) = u1 at *
      generalize (t2 * (y1 + 1) / 2 ^ w + 1) * (a + b + 2 * k) / (a + 2 + 2 * k) + 1 = u2 at *
      generalize t1 * y1 / 2 ^ w = v1 at *
      generalize t2 * (y1 + 1) / 2 ^ w + 1 = v2 at *
      have ad := fix_Add (a := a1) (b := a2) (c := u1) (d := u2) (by omega) (by omega) (by omega) (by omega)
      clear step lens hg
      by_cases hk : b ≤ k
      · rw [decide_eq_false (show ¬ t2 < 2 ^ 3 from fun h => hs ⟨hk, h⟩)] at sm
        repeat (first | (simp only [go_sem, Nat.reduceEqDiff, Nat.reduceAdd, Nat.reduceSub, Nat.reduceMul, Nat.reduceLeDiff, Nat.reduceLT, reduceIte, reduceCtorEq, Nat.succ_ne_zero, elemsC, Int.reduceToNat, Nat.reducePow, i0, i1, i3, i8, o8, i9, o9, i10, i11, i12, o10, o11, Bool.not_false]) | (simp (disch := (first | omega | (simp only [AL, List.length_map]; omega))) only [AR, AL, ifT, ifF, take_all, List.length_cons, List.length_nil, Int.reduceToNat, Int.reducePow, Nat.reducePow, i0, i1, i3, i8, o8, i9, o9, i10, i11, i12, o10, o11, Bool.not_false]) | (refine wk_intro (by kernel_rfl) ?_) | (refine vf_of (by first | exact sm | exact mu | exact q1 | exact q2 | exact ti | exact ad) ?_))
        exact ⟨⟨f, k + 1, u1, u2, a1 + u1, a2 + u2, rfl, by omega, hgo, rfl, rfl, st⟩, by omega⟩
      · repeat (first | (simp only [go_sem, Nat.reduceEqDiff, Nat.reduceAdd, Nat.reduceSub, Nat.reduceMul, Nat.reduceLeDiff, Nat.reduceLT, reduceIte, reduceCtorEq, Nat.succ_ne_zero, elemsC, Int.reduceToNat, Nat.reducePow, i0, i1, i3, i8, o8, i9, o9, i10, i11, i12, o10, o11]) | (simp (disch := (first | omega | (simp only [AL, List.length_map]; omega))) only [AR, AL, ifT, ifF, take_all, List.length_cons, List.length_nil, Int.reduceToNat, Int.reducePow, Nat.reducePow, i0, i1, i3, i8, o8, i9, o9, i10, i11, i12, o10, o11]) | (refine wk_intro (by kernel_rfl) ?_))
        repeat (first | (simp only [go_sem, Nat.reduceEqDiff, Nat.reduceAdd, Nat.reduceSub, Nat.reduceMul, Nat.reduceLeDiff, Nat.reduceLT, reduceIte, reduceCtorEq, Nat.succ_ne_zero, elemsC, Int.reduceToNat, Nat.reducePow, i0, i1, i3, i8, o8, i9, o9, i10, i11, i12, o10, o11]) | (simp (disch := (first | omega | (simp only [AL, List.length_map]; omega))) only [AR, AL, ifT, ifF, take_all, List.length_cons, List.length_nil, Int.reduceToNat, Int.reducePow, Nat.reducePow, i0, i1, i3, i8, o8, i9, o9, i10, i11, i12, o10, o11]) | (refine wk_intro (by kernel_rfl) ?_) | (refine vf_of (by first | exact mu | exact q1 | exact q2 | exact ti | exact ad) ?_))
        exact ⟨⟨f, k + 1, u1, u2, a1 + u1, a2 + u2, rfl, by omega, hgo, rfl, rfl, st⟩, by omega⟩
end
end Go.Proofs.YtemnjalaincijaaGreat

/- incb.row of whole numbers, in the evaluator. -/
namespace Go.Proofs.YtemnjalaincijaaGreat
set_option linter.unusedSimpArgs false
set_option linter.unusedVariables false
set_option maxRecDepth 8000
open Go.Ev
theorem num_den' (q : Rat) : q * (q.den : Rat) = (q.num : Rat) := by
  have h : mkRat q.num q.den * (q.den : Rat) = (q.num : Rat) := by
    rw [Rat.mkRat_eq_div]
    refine Rat.div_mul_cancel ?_
    have : (0 : Rat) < (q.den : Rat) := by exact_mod_cast q.den_pos
    grind
  rwa [Rat.mkRat_self] at h
section
variable {x : Rat} {A B w : Nat}
end
end Go.Proofs.YtemnjalaincijaaGreat

/- Of whole numbers beta's share is how likely so many tries succeed: plain mathematics. -/
namespace Go.Proofs.YtemnjalaincijaaGreat
open Go.Ev
set_option linter.unusedVariables false
theorem pwR_nn {q : Rat} (h : 0 ≤ q) : ∀ n, 0 ≤ pwR q n
  | 0 => by show (0 : Rat) ≤ 1; decide
  | n + 1 => Rat.mul_nonneg (pwR_nn h n) h
theorem cm (a b : Nat) : ((a * b : Nat) : Rat) = (a : Rat) * (b : Rat) := by exact_mod_cast rfl
section
variable {x y : Rat} {B : Nat}
end
end Go.Proofs.YtemnjalaincijaaGreat

/- What the row of whole numbers tells has the share, and is narrow: plain mathematics. -/
namespace Go.Proofs.YtemnjalaincijaaGreat
open Go.Ev
set_option linter.unusedVariables false
section
variable {x y : Rat}
end
section
variable {x : Rat} {A B w : Nat}
theorem un_enc {q : Rat} (h0 : 0 ≤ q) (w : Nat) : Enc w (unN q w) (unN q w + 1) q := by
  have D : (0 : Rat) < (q.den : Rat) := by exact_mod_cast q.den_pos
  have f := floor_le (a := q.num.natAbs * 2 ^ w) (d := q.den)
  have g := le_floor (a := q.num.natAbs * 2 ^ w) (d := q.den) q.den_pos
  have e : ((q.num.natAbs * 2 ^ w : Nat) : Rat) = q * p2 w * (q.den : Rat) := by
    rw [cm]
    have h := num_den' q
    have h2 : ((q.num.natAbs : Nat) : Rat) = (q.num : Rat) := by
      have : (q.num.natAbs : Int) = q.num := Int.natAbs_of_nonneg (Rat.num_nonneg.2 h0)
      rw [← this]; rfl
    rw [h2, ← h]
    show q * (q.den : Rat) * p2 w = _
    grind
  rw [e] at f g
  exact ⟨le_by D f, le_by D g⟩
end
end Go.Proofs.YtemnjalaincijaaGreat

/- slices.Equal, rat.Same; incb.I of whole numbers, in the evaluator. -/
namespace Go.Proofs.YtemnjalaincijaaGreat
set_option linter.unusedSimpArgs false
set_option linter.unusedVariables false
set_option maxRecDepth 8000
open Go.Ev
theorem slices_Equal (a b : List Nat) (ha : a.length ≤ 274877906944) (hb : b.length ≤ 274877906944) : Go.Ev.Fn CX 218 [natV a, natV b] (.bool (decide (a = b))) := by
  refine Go.Ev.Fn.intro (fn := Tryz.f218) (body := (Tryz.f218).body.get!) (by kernel_rfl) (by kernel_rfl) (by kernel_rfl) (fun _ => rfl) (Nat.le_of_ble_eq_true (by kernel_rfl)) ?_; unfold Tryz.f218; simp only [Option.get!_some]
  by_cases hl : a.length = b.length
  · repeat (first | (simp only [go_sem, Nat.reduceEqDiff, Nat.reduceAdd, Nat.reduceSub, Nat.reduceMul, Nat.reduceLeDiff, Nat.reduceLT, reduceIte, reduceCtorEq, Nat.succ_ne_zero, elemsC, Int.reduceToNat, Nat.reducePow]) | (simp (disch := (first | omega | (simp only [AL, List.length_map]; omega))) only [AR, AL, ifT, ifF, take_all, List.length_cons, List.length_nil, Int.reduceToNat, Int.reducePow, Nat.reducePow]) | (refine wk_intro (by kernel_rfl) ?_) | (refine vp_draw (id := 6) (l := []) (by kernel_rfl) ?_))
    refine vp_loop_inv (fun s => s.tmp 0 = .sv (natV a) ∧ s.tmp 1 = .sv (natV b) ∧ s.tmp 12 = .sv (.int .i64 (a.length : Int)) ∧ ∃ i : Nat, s.tmp 13 = .sv (.int .i64 i) ∧ i ≤ a.length ∧ a.take i = b.take i) (fun s => match s.tmp 13 with | .sv (.int _ i) => a.length - i.toNat | _ => 0) ⟨rfl, rfl, rfl, 0, rfl, by omega, rfl⟩ ?_
    rintro s ⟨i0, i1, i12, i, i13, hi, ht⟩
    by_cases hend : i = a.length
    · subst hend
      rw [List.take_length, hl, List.take_length] at ht
      rw [decide_eq_true ht]
      repeat (first | (simp only [go_sem, Nat.reduceEqDiff, Nat.reduceAdd, Nat.reduceSub, Nat.reduceMul, Nat.reduceLeDiff, Nat.reduceLT, reduceIte, reduceCtorEq, Nat.succ_ne_zero, elemsC, Int.reduceToNat, Nat.reducePow, i0, i1, i12, i13]) | (simp (disch := (first | omega | (simp only [AL, List.length_map]; omega))) only [AR, AL, ifT, ifF, take_all, List.length_cons, List.length_nil, Int.reduceToNat, Int.reducePow, Nat.reducePow, i0, i1, i12, i13]) | (refine wk_intro (by kernel_rfl) ?_) | (refine vp_draw (id := 6) (l := []) (by kernel_rfl) ?_))
    · have e : ∀ c : List Nat, i < c.length → c.take (i + 1) = c.take i ++ [c.getD i 0] := by
        intro c hc
        rw [List.take_add_one, List.getD_eq_getElem?_getD, List.getElem?_eq_getElem hc]
        rfl
      by_cases hx : a.getD i 0 = b.getD i 0
      · repeat (first | (simp only [go_sem, Nat.reduceEqDiff, Nat.reduceAdd, Nat.reduceSub, Nat.reduceMul, Nat.reduceLeDiff, Nat.reduceLT, reduceIte, reduceCtorEq, Nat.succ_ne_zero, elemsC, Int.reduceToNat, Nat.reducePow, i0, i1, i12, i13]) | (simp (disch := (first | omega | (simp only [AL, List.length_map]; omega))) only [AR, AL, ifT, ifF, take_all, List.length_cons, List.length_nil, Int.reduceToNat, Int.reducePow, Nat.reducePow, i0, i1, i12, i13]) | (refine wk_intro (by kernel_rfl) ?_) | (refine vp_draw (id := 6) (l := []) (by kernel_rfl) ?_))
        exact ⟨⟨i + 1, rfl, by omega, by rw [e a (by omega), e b (by omega), ht, hx]⟩, by omega⟩
      · rw [decide_eq_false (fun h => hx (by rw [h]))]
        repeat (first | (simp only [go_sem, Nat.reduceEqDiff, Nat.reduceAdd, Nat.reduceSub, Nat.reduceMul, Nat.reduceLeDiff, Nat.reduceLT, reduceIte, reduceCtorEq, Nat.succ_ne_zero, elemsC, Int.reduceToNat, Nat.reducePow, i0, i1, i12, i13]) | (simp (disch := (first | omega | (simp only [AL, List.length_map]; omega))) only [AR, AL, ifT, ifF, take_all, List.length_cons, List.length_nil, Int.reduceToNat, Int.reducePow, Nat.reducePow, i0, i1, i12, i13]) | (refine wk_intro (by kernel_rfl) ?_) | (refine vp_draw (id := 6) (l := []) (by kernel_rfl) ?_))
  · rw [decide_eq_false (fun h => hl (by rw [h]))]
    repeat (first | (simp only [go_sem, Nat.reduceEqDiff, Nat.reduceAdd, Nat.reduceSub, Nat.reduceMul, Nat.reduceLeDiff, Nat.reduceLT, reduceIte, reduceCtorEq, Nat.succ_ne_zero, elemsC, Int.reduceToNat, Nat.reducePow]) | (simp (disch := (first | omega | (simp only [AL, List.length_map]; omega))) only [AR, AL, ifT, ifF, take_all, List.length_cons, List.length_nil, Int.reduceToNat, Int.reducePow, Nat.reducePow]) | (refine wk_intro (by kernel_rfl) ?_) | (refine vp_draw (id := 6) (l := []) (by kernel_rfl) ?_))
theorem rat_Same {v w : SV} {q r : Rat} {L M : Nat} (hv : RatA v q L) (hw : RatA w r M) (hL : 1 ≤ L) (hM : 1 ≤ M) (h : L + M ≤ 8388608) : Go.Ev.Fn CX 196 [v, w] (.bool (decide (q = r))) := by
  have hnv := rat_Norm hv (by omega)
  have hnw := rat_Norm hw (by omega)
  obtain ⟨z1, z2⟩ := szR_of hv hL
  obtain ⟨y1, y2⟩ := szR_of hw hM
  have l1 := slices_Equal (lim q.num.natAbs) (lim r.num.natAbs) (by omega) (by omega)
  have l2 := slices_Equal (lim q.den) (lim r.den) (by omega) (by omega)
  have hbb := beq_bool (decide (q.num < 0)) (decide (r.num < 0))
  obtain ⟨s, n, d, rfl, -⟩ := hv
  obtain ⟨s', n', d', rfl, -⟩ := hw
  refine Go.Ev.Fn.intro (fn := Tryz.f196) (body := (Tryz.f196).body.get!) (by kernel_rfl) (by kernel_rfl) (by kernel_rfl) (fun _ => rfl) (Nat.le_of_ble_eq_true (by kernel_rfl)) ?_; unfold Tryz.f196; simp only [Option.get!_some]
  repeat (first | (simp only [go_sem, Nat.reduceEqDiff, Nat.reduceAdd, Nat.reduceSub, Nat.reduceMul, Nat.reduceLeDiff, Nat.reduceLT, reduceIte, reduceCtorEq, Nat.succ_ne_zero, elemsC, Int.reduceToNat, Nat.reducePow, hbb]) | (simp (disch := (first | omega | (simp only [AL, List.length_map]; omega))) only [AR, AL, ifT, ifF, take_all, List.length_cons, List.length_nil, Int.reduceToNat, Int.reducePow, Nat.reducePow, hbb]) | (refine wk_intro (by kernel_rfl) ?_) | (refine vp_draw (id := 1) (l := []) (by kernel_rfl) ?_) | (refine vf_of (by first | exact hnv | exact hnw) ?_))
  by_cases h1 : decide (q.num < 0) = decide (r.num < 0)
  · rw [decide_eq_true h1]
    by_cases h2 : lim q.num.natAbs = lim r.num.natAbs
    · rw [decide_eq_true h2] at l1
      repeat (first | (simp only [go_sem, Nat.reduceEqDiff, Nat.reduceAdd, Nat.reduceSub, Nat.reduceMul, Nat.reduceLeDiff, Nat.reduceLT, reduceIte, reduceCtorEq, Nat.succ_ne_zero, elemsC, Int.reduceToNat, Nat.reducePow]) | (simp (disch := (first | omega | (simp only [AL, List.length_map]; omega))) only [AR, AL, ifT, ifF, take_all, List.length_cons, List.length_nil, Int.reduceToNat, Int.reducePow, Nat.reducePow]) | (refine wk_intro (by kernel_rfl) ?_) | (refine vp_draw (id := 1) (l := []) (by kernel_rfl) ?_))
      have e : decide (lim q.den = lim r.den) = decide (q = r) := by
        by_cases h3 : lim q.den = lim r.den
        · rw [decide_eq_true h3, decide_eq_true (rv_eq h1 h2 h3)]
        · rw [decide_eq_false h3, decide_eq_false (fun e => h3 (by rw [e]))]
      rw [e] at l2
      repeat (first | (simp only [go_sem, Nat.reduceEqDiff, Nat.reduceAdd, Nat.reduceSub, Nat.reduceMul, Nat.reduceLeDiff, Nat.reduceLT, reduceIte, reduceCtorEq, Nat.succ_ne_zero, elemsC, Int.reduceToNat, Nat.reducePow]) | (simp (disch := (first | omega | (simp only [AL, List.length_map]; omega))) only [AR, AL, ifT, ifF, take_all, List.length_cons, List.length_nil, Int.reduceToNat, Int.reducePow, Nat.reducePow]) | (refine wk_intro (by kernel_rfl) ?_) | (refine vp_draw (id := 1) (l := []) (by kernel_rfl) ?_) | (refine vf_of (by first | exact l1 | exact l2) ?_))
    · rw [decide_eq_false h2] at l1
      have hne : q ≠ r := fun e => h2 (by rw [e])
      rw [decide_eq_false hne]
      repeat (first | (simp only [go_sem, Nat.reduceEqDiff, Nat.reduceAdd, Nat.reduceSub, Nat.reduceMul, Nat.reduceLeDiff, Nat.reduceLT, reduceIte, reduceCtorEq, Nat.succ_ne_zero, elemsC, Int.reduceToNat, Nat.reducePow]) | (simp (disch := (first | omega | (simp only [AL, List.length_map]; omega))) only [AR, AL, ifT, ifF, take_all, List.length_cons, List.length_nil, Int.reduceToNat, Int.reducePow, Nat.reducePow]) | (refine wk_intro (by kernel_rfl) ?_) | (refine vp_draw (id := 1) (l := []) (by kernel_rfl) ?_) | (refine vf_of (by first | exact l1) ?_))
  · have hne : q ≠ r := fun e => h1 (by rw [e])
    rw [decide_eq_false h1, decide_eq_false hne]
    repeat (first | (simp only [go_sem, Nat.reduceEqDiff, Nat.reduceAdd, Nat.reduceSub, Nat.reduceMul, Nat.reduceLeDiff, Nat.reduceLT, reduceIte, reduceCtorEq, Nat.succ_ne_zero, elemsC, Int.reduceToNat, Nat.reducePow]) | (simp (disch := (first | omega | (simp only [AL, List.length_map]; omega))) only [AR, AL, ifT, ifF, take_all, List.length_cons, List.length_nil, Int.reduceToNat, Int.reducePow, Nat.reducePow]) | (refine wk_intro (by kernel_rfl) ?_) | (refine vp_draw (id := 1) (l := []) (by kernel_rfl) ?_))
theorem neg_num {x : Rat} : decide (x.num < 0) = decide (x < 0) := by
  have h := Rat.num_nonneg (q := x)
  refine decide_eq_decide.2 ⟨fun g => ?_, fun g => ?_⟩
  · have : ¬ 0 ≤ x := fun k => absurd (h.2 k) (by omega)
    grind
  · rcases Int.lt_or_le x.num 0 with k | k
    · exact k
    · exact absurd (h.1 k) (by grind)
section
variable {v : SV} {x : Rat} {A B p L : Nat}
theorem erv {x : Rat} (h : decide (x.num < 0) = false) : rv x = ratV false (lim x.num.natAbs) (lim x.den) := by show ratV (decide (x.num < 0)) _ _ = _; rw [h]
theorem incb_I_ends {a b : Int} {pI : Int} (hv : RatA v x L) (hL1 : 1 ≤ L) (hL : L ≤ 3) (ha : 1 ≤ a ∧ a ≤ 256) (hb : 1 ≤ b ∧ b ≤ 256) (h : x = 0 ∨ x = 1) : Go.Ev.Fn CX 167 [.int .i64 a, .int .i64 b, v, .int .i64 pI] (.tup [ballR x x, .bool true]) := by
  have n1 := rat_Norm hv (by omega)
  have zx := szR_of hv hL1
  have i1 := rat_Int 1 (by omega)
  have o := ball_Of (RatA_rv zx) (by omega)
  have c1 := rat_Cmp (RatA_rv zx) (RatA_rv (int_szR (n := 1) (by omega))) hL1 (by omega) (by omega)
  have zr := rat_Zero (RatA_rv zx) hL1 (by omega)
  have sm := rat_Same (RatA_rv zx) (RatA_rv (int_szR (n := 1) (by omega))) hL1 (by omega) (by omega)
  rw [show ((1 : Int) : Rat) = 1 from rfl] at i1 c1 sm
  have e1 : decide (cmpR x 1 > 0) = false := by rw [cmpR_gt]; exact decide_eq_false (by rcases h with rfl | rfl <;> decide +kernel)
  have en : decide (x.num < 0) = false := by rw [neg_num]; exact decide_eq_false (by rcases h with rfl | rfl <;> decide +kernel)
  rw [erv en] at n1 c1 zr sm o
  obtain ⟨s, n, d, rfl, -⟩ := hv
  generalize cmpR x 1 = z at *
  by_cases hx : x = 0
  · rw [decide_eq_true hx] at zr
    clear hx h
    refine Go.Ev.Fn.intro (fn := Tryz.f167) (body := (Tryz.f167).body.get!) (by kernel_rfl) (by kernel_rfl) (by kernel_rfl) (fun _ => rfl) (Nat.le_of_ble_eq_true (by kernel_rfl)) ?_; unfold Tryz.f167; simp only [Option.get!_some]
    repeat (first | (simp only [go_sem, Nat.reduceEqDiff, Nat.reduceAdd, Nat.reduceSub, Nat.reduceMul, Nat.reduceLeDiff, Nat.reduceLT, reduceIte, reduceCtorEq, Nat.succ_ne_zero, elemsC, Int.reduceToNat, Nat.reducePow, en, e1]) | (simp (disch := (first | omega | (simp only [AL, List.length_map]; omega))) only [AR, AL, ifT, ifF, take_all, List.length_cons, List.length_nil, Int.reduceToNat, Int.reducePow, Nat.reducePow, en, e1]) | (refine wk_intro (by kernel_rfl) ?_) | (refine vp_draw (id := 9) (l := []) (by kernel_rfl) ?_) | (refine vp_draw (id := 11) (l := []) (by kernel_rfl) ?_) | (refine vf_of (by first | exact n1 | exact i1 | exact c1 | exact zr | exact o) ?_))
    show _ = SV.agg [.bool (decide (x.num < 0)), natV (lim x.num.natAbs), natV (lim x.den), .bool (decide (x.num < 0)), natV (lim x.num.natAbs), natV (lim x.den)]
    rw [en]
  · rw [decide_eq_false hx] at zr
    rw [decide_eq_true (h.resolve_left hx)] at sm
    clear hx h
    refine Go.Ev.Fn.intro (fn := Tryz.f167) (body := (Tryz.f167).body.get!) (by kernel_rfl) (by kernel_rfl) (by kernel_rfl) (fun _ => rfl) (Nat.le_of_ble_eq_true (by kernel_rfl)) ?_; unfold Tryz.f167; simp only [Option.get!_some]
    repeat (first | (simp only [go_sem, Nat.reduceEqDiff, Nat.reduceAdd, Nat.reduceSub, Nat.reduceMul, Nat.reduceLeDiff, Nat.reduceLT, reduceIte, reduceCtorEq, Nat.succ_ne_zero, elemsC, Int.reduceToNat, Nat.reducePow, en, e1]) | (simp (disch := (first | omega | (simp only [AL, List.length_map]; omega))) only [AR, AL, ifT, ifF, take_all, List.length_cons, List.length_nil, Int.reduceToNat, Int.reducePow, Nat.reducePow, en, e1]) | (refine wk_intro (by kernel_rfl) ?_) | (refine vp_draw (id := 9) (l := []) (by kernel_rfl) ?_) | (refine vp_draw (id := 11) (l := []) (by kernel_rfl) ?_) | (refine vf_of (by first | exact n1 | exact i1 | exact c1 | exact zr | exact sm | exact o) ?_))
    show _ = SV.agg [.bool (decide (x.num < 0)), natV (lim x.num.natAbs), natV (lim x.den), .bool (decide (x.num < 0)), natV (lim x.num.natAbs), natV (lim x.den)]
    rw [en]
end
end Go.Proofs.YtemnjalaincijaaGreat

/- incb.I of any halves, in the evaluator. -/
namespace Go.Proofs.YtemnjalaincijaaGreat
set_option linter.unusedSimpArgs false
set_option linter.unusedVariables false
set_option maxRecDepth 8000
open Go.Ev
set_option linter.unusedVariables false
section
variable {v : SV} {x : Rat} {a b p L : Nat}
/-- What is told of so many units. -/
abbrev toldLo (A p : Nat) : Rat := mkRat ((A / 2 ^ (p + 300 - (p + 2)) : Nat) : Int) (2 ^ (p + 2))
abbrev toldHi (B p : Nat) : Rat := mkRat ((B / 2 ^ (p + 300 - (p + 2)) + 1 : Nat) : Int) (2 ^ (p + 2))
theorem told_sz {A B : Nat} (hp : p ≤ 80) (hA : (lim A).length ≤ 100) (hB : (lim B).length ≤ 100) : szR (toldLo A p) 101 ∧ szR (toldHi B p) 101 := by
  have l3 := lim_len_mono (Nat.div_le_self A (2 ^ (p + 300 - (p + 2))))
  have l4 := lim_len_mono (Nat.div_le_self B (2 ^ (p + 300 - (p + 2))))
  have l1 := lim_len1
  have l5 := lim_len_add (a := B / 2 ^ (p + 300 - (p + 2))) (b := 1) (L := 100) (by omega) (by omega)
  have lp := lim_len_shl (a := 1) (n := p + 2)
  rw [Nat.one_mul] at lp
  exact ⟨szR_mk (s := false) (n := A / 2 ^ (p + 300 - (p + 2))) (d := 2 ^ (p + 2)) (L := 101) (by omega) (by omega) (by omega), szR_mk (s := false) (n := B / 2 ^ (p + 300 - (p + 2)) + 1) (d := 2 ^ (p + 2)) (L := 101) (by omega) (by omega) (by omega)⟩
set_option maxHeartbeats 1000000 in
theorem incb_I_loP {A' B' : Nat} {pI : Int} (hpI : (pI ≤ 0 ∧ p = 0) ∨ pI = (p : Int)) (hv : RatA v x L) (hL1 : 1 ≤ L) (hL : L ≤ 200) (ha : 1 ≤ a) (ha2 : a ≤ 20) (hb : 1 ≤ b) (hb2 : b ≤ 20) (hp : p ≤ 80) (h0 : 0 < x) (h1 : x + x ≤ 1)
    (rw1 : Go.Ev.Fn CX 197 [.int .i64 (a : Int), .int .i64 (b : Int), rv x, .int .i64 ((p + 300 : Nat) : Int)] (spanV A' B')) (hl : (lim A').length ≤ 100 ∧ (lim B').length ≤ 100) :
    Go.Ev.Fn CX 167 [.int .i64 (a : Int), .int .i64 (b : Int), v, .int .i64 pI] (.tup [ballR (toldLo A' p) (toldHi B' p), .bool true]) := by
  have n1 := rat_Norm hv (by omega)
  have zx := szR_of hv hL1
  have i1 := rat_Int 1 (by omega)
  have c1 := rat_Cmp (RatA_rv zx) (RatA_rv (int_szR (n := 1) (by omega))) hL1 (by omega) (by omega)
  have zr := rat_Zero (RatA_rv zx) hL1 (by omega)
  rw [decide_eq_false (by grind)] at zr
  have sm := rat_Same (RatA_rv zx) (RatA_rv (int_szR (n := 1) (by omega))) hL1 (by omega) (by omega)
  have ad := rat_Add (RatA_rv zx) (RatA_rv zx) hL1 hL1 (by omega)
  have c2 := rat_Cmp (RatA_rv (szR_add zx zx hL1)) (RatA_rv (int_szR (n := 1) (by omega))) (by omega) (by omega) (by omega)
  rw [show ((1 : Int) : Rat) = 1 from rfl] at i1 c1 sm c2
  rw [decide_eq_false (show ¬ x = 1 by grind)] at sm
  have e1 : decide (cmpR x 1 > 0) = false := by rw [cmpR_gt]; exact decide_eq_false (by grind)
  have e2 : decide (cmpR (x + x) 1 ≤ 0) = true := by rw [cmpR_le]; exact decide_eq_true h1
  have en : decide (x.num < 0) = false := by rw [neg_num]; exact decide_eq_false (by grind)
  have td := fix_Told (a := A') (b := B') (w := p + 300) (p := p + 2) (by omega) (by omega) (by omega) (by omega)
  have x1 : (if (0 : Int) > pI then (0 : Int) else pI) = (p : Int) := by split <;> omega
  have x2 : (if (200 : Int) < (p : Int) then (200 : Int) else (p : Int)) = (p : Int) := if_neg (by omega)
  rw [show ((p + 300 : Nat) : Int) = (p : Int) + 300 from rfl] at rw1 td
  rw [show ((p + 2 : Nat) : Int) = (p : Int) + 2 from rfl] at td
  unfold toldLo toldHi
  generalize mkRat ((A' / 2 ^ (p + 300 - (p + 2)) : Nat) : Int) (2 ^ (p + 2)) = q1 at *
  generalize mkRat ((B' / 2 ^ (p + 300 - (p + 2)) + 1 : Nat) : Int) (2 ^ (p + 2)) = q2 at *
  rw [erv en] at n1 c1 zr sm ad rw1
  obtain ⟨s, n, d, rfl, -⟩ := hv
  clear h0 h1
  generalize cmpR x 1 = z at *
  generalize x + x = xx at *
  generalize cmpR xx 1 = z2 at *
  refine Go.Ev.Fn.intro (fn := Tryz.f167) (body := (Tryz.f167).body.get!) (by kernel_rfl) (by kernel_rfl) (by kernel_rfl) (fun _ => rfl) (Nat.le_of_ble_eq_true (by kernel_rfl)) ?_; unfold Tryz.f167; simp only [Option.get!_some]
  repeat (first | (simp only [go_sem, Nat.reduceEqDiff, Nat.reduceAdd, Nat.reduceSub, Nat.reduceMul, Nat.reduceLeDiff, Nat.reduceLT, reduceIte, reduceCtorEq, Nat.succ_ne_zero, elemsC, Int.reduceToNat, Nat.reducePow, en, x1, x2, e1, e2]) | (simp (disch := (first | omega | (simp only [AL, List.length_map]; omega))) only [AR, AL, ifT, ifF, take_all, List.length_cons, List.length_nil, Int.reduceToNat, Int.reducePow, Nat.reducePow, en, x1, x2, e1, e2]) | (refine wk_intro (by kernel_rfl) ?_) | (refine vp_draw (id := 9) (l := []) (by kernel_rfl) ?_) | (refine vp_draw (id := 11) (l := []) (by kernel_rfl) ?_) | (refine vf_of (by first | exact n1 | exact i1 | exact c1 | exact zr | exact sm | exact ad | exact c2 | exact rw1 | exact td) ?_))
theorem incb_I_lo {A' B' : Nat} (hv : RatA v x L) (hL1 : 1 ≤ L) (hL : L ≤ 200) (ha : 1 ≤ a) (ha2 : a ≤ 20) (hb : 1 ≤ b) (hb2 : b ≤ 20) (hp : p ≤ 80) (h0 : 0 < x) (h1 : x + x ≤ 1)
    (rw1 : Go.Ev.Fn CX 197 [.int .i64 (a : Int), .int .i64 (b : Int), rv x, .int .i64 ((p + 300 : Nat) : Int)] (spanV A' B')) (hl : (lim A').length ≤ 100 ∧ (lim B').length ≤ 100) :
    Go.Ev.Fn CX 167 [.int .i64 (a : Int), .int .i64 (b : Int), v, .int .i64 (p : Int)] (.tup [ballR (toldLo A' p) (toldHi B' p), .bool true]) := incb_I_loP (.inr rfl) hv hL1 hL ha ha2 hb hb2 hp h0 h1 rw1 hl
set_option maxHeartbeats 1000000 in
theorem incb_I_hiP {A' B' : Nat} {pI : Int} (hpI : (pI ≤ 0 ∧ p = 0) ∨ pI = (p : Int)) (hv : RatA v x L) (hL1 : 1 ≤ L) (hL : L ≤ 200) (ha : 1 ≤ a) (ha2 : a ≤ 20) (hb : 1 ≤ b) (hb2 : b ≤ 20) (hp : p ≤ 80) (h0 : 1 < x + x) (h1 : x < 1)
    (rw1 : Go.Ev.Fn CX 197 [.int .i64 (b : Int), .int .i64 (a : Int), rv (1 - x), .int .i64 ((p + 300 : Nat) : Int)] (spanV A' B')) (hl : (lim A').length ≤ 100 ∧ (lim B').length ≤ 100) :
    Go.Ev.Fn CX 167 [.int .i64 (a : Int), .int .i64 (b : Int), v, .int .i64 pI] (.tup [ballR (1 - toldHi B' p) (1 - toldLo A' p), .bool true]) := by
  have n1 := rat_Norm hv (by omega)
  have zx := szR_of hv hL1
  have i1 := rat_Int 1 (by omega)
  have c1 := rat_Cmp (RatA_rv zx) (RatA_rv (int_szR (n := 1) (by omega))) hL1 (by omega) (by omega)
  have zr := rat_Zero (RatA_rv zx) hL1 (by omega)
  rw [decide_eq_false (by grind)] at zr
  have sm := rat_Same (RatA_rv zx) (RatA_rv (int_szR (n := 1) (by omega))) hL1 (by omega) (by omega)
  have ad := rat_Add (RatA_rv zx) (RatA_rv zx) hL1 hL1 (by omega)
  have c2 := rat_Cmp (RatA_rv (szR_add zx zx hL1)) (RatA_rv (int_szR (n := 1) (by omega))) (by omega) (by omega) (by omega)
  have b1 := ball_Of (RatA_rv (int_szR (n := 1) (by omega))) (by omega)
  have sb := rat_Sub (RatA_rv (int_szR (n := 1) (by omega))) (RatA_rv zx) (by omega) hL1 (by omega)
  have one1 : szR 1 1 := ⟨lim_len_lt (by decide +kernel), lim_len_lt (by decide +kernel)⟩
  rw [show ((1 : Int) : Rat) = 1 from rfl] at i1 c1 sm c2 b1 sb
  rw [decide_eq_false (show ¬ x = 1 by grind)] at sm
  have e1 : decide (cmpR x 1 > 0) = false := by rw [cmpR_gt]; exact decide_eq_false (by grind)
  have e2 : decide (cmpR (x + x) 1 ≤ 0) = false := by rw [cmpR_le]; exact decide_eq_false (by grind)
  have en : decide (x.num < 0) = false := by rw [neg_num]; exact decide_eq_false (by grind)
  have td := fix_Told (a := A') (b := B') (w := p + 300) (p := p + 2) (by omega) (by omega) (by omega) (by omega)
  obtain ⟨z1, z2⟩ := told_sz (p := p) hp hl.1 hl.2
  have bs := ball_Sub (a := 1) (b := 1) (L := 101) (szR_mono one1 (by omega)) (szR_mono one1 (by omega)) z1 z2 (by omega) (by omega)
  have x1 : (if (0 : Int) > pI then (0 : Int) else pI) = (p : Int) := by split <;> omega
  have x2 : (if (200 : Int) < (p : Int) then (200 : Int) else (p : Int)) = (p : Int) := if_neg (by omega)
  rw [show ((p + 300 : Nat) : Int) = (p : Int) + 300 from rfl] at rw1 td
  rw [show ((p + 2 : Nat) : Int) = (p : Int) + 2 from rfl] at td
  unfold toldLo toldHi at *
  generalize mkRat ((A' / 2 ^ (p + 300 - (p + 2)) : Nat) : Int) (2 ^ (p + 2)) = q1 at *
  generalize mkRat ((B' / 2 ^ (p + 300 - (p + 2)) + 1 : Nat) : Int) (2 ^ (p + 2)) = q2 at *
  generalize 1 - q2 = w1 at *
  generalize 1 - q1 = w2 at *
  rw [erv en] at n1 c1 zr sm ad sb
  obtain ⟨s, n, d, rfl, -⟩ := hv
  clear h0 h1
  generalize cmpR x 1 = z at *
  generalize x + x = xx at *
  generalize cmpR xx 1 = z2' at *
  generalize 1 - x = y at *
  refine Go.Ev.Fn.intro (fn := Tryz.f167) (body := (Tryz.f167).body.get!) (by kernel_rfl) (by kernel_rfl) (by kernel_rfl) (fun _ => rfl) (Nat.le_of_ble_eq_true (by kernel_rfl)) ?_; unfold Tryz.f167; simp only [Option.get!_some]
  repeat (first | (simp only [go_sem, Nat.reduceEqDiff, Nat.reduceAdd, Nat.reduceSub, Nat.reduceMul, Nat.reduceLeDiff, Nat.reduceLT, reduceIte, reduceCtorEq, Nat.succ_ne_zero, elemsC, Int.reduceToNat, Nat.reducePow, en, x1, x2, e1, e2]) | (simp (disch := (first | omega | (simp only [AL, List.length_map]; omega))) only [AR, AL, ifT, ifF, take_all, List.length_cons, List.length_nil, Int.reduceToNat, Int.reducePow, Nat.reducePow, en, x1, x2, e1, e2]) | (refine wk_intro (by kernel_rfl) ?_) | (refine vp_draw (id := 9) (l := []) (by kernel_rfl) ?_) | (refine vp_draw (id := 11) (l := []) (by kernel_rfl) ?_) | (refine vf_of (by first | exact n1 | exact i1 | exact c1 | exact zr | exact sm | exact ad | exact c2 | exact b1 | exact sb | exact rw1 | exact td | exact bs) ?_))
theorem incb_I_hi {A' B' : Nat} (hv : RatA v x L) (hL1 : 1 ≤ L) (hL : L ≤ 200) (ha : 1 ≤ a) (ha2 : a ≤ 20) (hb : 1 ≤ b) (hb2 : b ≤ 20) (hp : p ≤ 80) (h0 : 1 < x + x) (h1 : x < 1)
    (rw1 : Go.Ev.Fn CX 197 [.int .i64 (b : Int), .int .i64 (a : Int), rv (1 - x), .int .i64 ((p + 300 : Nat) : Int)] (spanV A' B')) (hl : (lim A').length ≤ 100 ∧ (lim B').length ≤ 100) :
    Go.Ev.Fn CX 167 [.int .i64 (a : Int), .int .i64 (b : Int), v, .int .i64 (p : Int)] (.tup [ballR (1 - toldHi B' p) (1 - toldLo A' p), .bool true]) := incb_I_hiP (.inr rfl) hv hL1 hL ha ha2 hb hb2 hp h0 h1 rw1 hl
end
end Go.Proofs.YtemnjalaincijaaGreat

/- vernierref4.Add; vernierref12.I outside; vernierlaw12.big, in the evaluator. -/
namespace Go.Proofs.YtemnjalaincijaaGreat
set_option linter.unusedSimpArgs false
set_option linter.unusedVariables false
set_option maxRecDepth 8000
open Go.Ev
set_option linter.unusedVariables false
end Go.Proofs.YtemnjalaincijaaGreat

/- vernierlaw12.IncbSides, in the evaluator: all but the share at a half. -/
namespace Go.Proofs.YtemnjalaincijaaGreat
set_option linter.unusedSimpArgs false
set_option linter.unusedVariables false
set_option maxRecDepth 8000
open Go.Ev
set_option linter.unusedVariables false
section
variable {x : Rat} {a b p : Int} {s : Bool} {n d : List Nat}
end
end Go.Proofs.YtemnjalaincijaaGreat

/- vernierlaw12.IncbSides at all numbers but a half, in the evaluator. -/
namespace Go.Proofs.YtemnjalaincijaaGreat
open Go.Ev
set_option linter.unusedVariables false
theorem told_le {A B p : Nat} (h : A ≤ B) : toldLo A p ≤ toldHi B p := by
  unfold toldLo toldHi
  have P := p2_pos (p + 2)
  have h1 := Nat.div_le_div_right (c := 2 ^ (p + 300 - (p + 2))) h
  have e1 := mk_p2n (A / 2 ^ (p + 300 - (p + 2))) (p + 2)
  have e2 := mk_p2n (B / 2 ^ (p + 300 - (p + 2)) + 1) (p + 2)
  refine le_by P ?_
  rw [e1, e2]
  exact nat_le_rat (Nat.le_succ_of_le h1)
section
variable {x : Rat} {a b p : Nat} {s : Bool} {n d : List Nat}
/-- A row of any halves is told. -/
theorem row_told {L : Nat} (hz : szR x L) (hL1 : 1 ≤ L) (hL : L ≤ 200) (ha : 1 ≤ a) (ha2 : a ≤ 20) (hb : 1 ≤ b) (hb2 : b ≤ 20) (hp : p ≤ 60) (h0 : 0 ≤ x) (h1 : x + x ≤ 1) :
    ∃ A B : Nat, Go.Ev.Fn CX 197 [.int .i64 (a : Int), .int .i64 (b : Int), rv x, .int .i64 ((p + 300 : Nat) : Int)] (spanV A B) ∧ A ≤ B ∧ (lim A).length ≤ 100 ∧ (lim B).length ≤ 100 := by
  obtain ⟨F1, F2, _, _, _, _, fi, g1, g2, g3, -⟩ := incb_fst (w := p + 300) ha ha2 hb hb2 hz hL1 hL h0 (by grind) (by omega) (by omega)
  obtain ⟨A, B, K, hg⟩ := rowh_ends ha hb2 h0 h1 (by omega) (by omega) g1 g2 g3
  obtain ⟨k1, k2, k3⟩ := rowh_bd ha hb2 h0 h1 (by omega) g1 g2 g3 hg
  have f := incb_rowh ha ha2 hb hb2 hz (by omega) h0 h1 (by omega) (by omega) fi g1 g2 g3 hg
  have lB := lim_len_p2 k3 (by omega)
  exact ⟨A, B, f, k1, Nat.le_trans (lim_len_mono k1) (by omega), by omega⟩
end
end Go.Proofs.YtemnjalaincijaaGreat

/- The row's sum: it rises, and what is left out is at most three times the last term: plain mathematics. -/
namespace Go.Proofs.YtemnjalaincijaaGreat
open Go.Ev
set_option linter.unusedVariables false
section
variable {x : Rat} {a b : Nat}
theorem rR_step (k : Nat) : rR x a b (k + 1) * ((a + 2 + 2 * k : Nat) : Rat) = rR x a b k * x * ((a + b + 2 * k : Nat) : Rat) := by
  have M : (0 : Rat) < ((a + 2 + 2 * k : Nat) : Rat) := by exact_mod_cast (show 0 < a + 2 + 2 * k by omega)
  show rR x a b k * x * ((a + b + 2 * k : Nat) : Rat) / ((a + 2 + 2 * k : Nat) : Rat) * _ = _
  exact Rat.div_mul_cancel (by grind)
theorem rR_nn (h : 0 ≤ x) : ∀ k, 0 ≤ rR x a b k := by
  intro k
  induction k with
  | zero => show (0 : Rat) ≤ 1; decide
  | succ k ih =>
    have M : (0 : Rat) < ((a + 2 + 2 * k : Nat) : Rat) := by exact_mod_cast (show 0 < a + 2 + 2 * k by omega)
    have e := rR_step (x := x) (a := a) (b := b) k
    refine le_by M ?_
    rw [e, Rat.zero_mul]
    exact Rat.mul_nonneg (Rat.mul_nonneg ih h) (nat_nonneg _)
theorem rR_fall (h : 0 ≤ x) (h1 : x + x ≤ 1) {k : Nat} (hk : b ≤ k) : 4 * rR x a b (k + 1) ≤ 3 * rR x a b k := by
  have M : (0 : Rat) < ((a + 2 + 2 * k : Nat) : Rat) := by exact_mod_cast (show 0 < a + 2 + 2 * k by omega)
  have e := rR_step (x := x) (a := a) (b := b) k
  have r0 := rR_nn (a := a) (b := b) h k
  have hn : ((2 * (a + b + 2 * k) : Nat) : Rat) ≤ ((3 * (a + 2 + 2 * k) : Nat) : Rat) := by exact_mod_cast (show 2 * (a + b + 2 * k) ≤ 3 * (a + 2 + 2 * k) by omega)
  have c1 : ((2 * (a + b + 2 * k) : Nat) : Rat) = 2 * ((a + b + 2 * k : Nat) : Rat) := by exact_mod_cast rfl
  have c2 : ((3 * (a + 2 + 2 * k) : Nat) : Rat) = 3 * ((a + 2 + 2 * k : Nat) : Rat) := by exact_mod_cast rfl
  rw [c1, c2] at hn
  have n0 := nat_nonneg (a + b + 2 * k)
  generalize ((a + 2 + 2 * k : Nat) : Rat) = m at *
  generalize ((a + b + 2 * k : Nat) : Rat) = n at *
  generalize rR x a b (k + 1) = r' at *
  generalize rR x a b k = r at *
  refine le_by M ?_
  have k1 : r * (n * (x + x)) ≤ r * (n * 1) := Rat.mul_le_mul_of_nonneg_left (Rat.mul_le_mul_of_nonneg_left h1 n0) r0
  have k2 : r * (2 * n) ≤ r * (3 * m) := Rat.mul_le_mul_of_nonneg_left hn r0
  have e1 : 4 * r' * m = 2 * (r * (n * (x + x))) := by
    have : 4 * r' * m = 4 * (r' * m) := by grind
    rw [this, e]; grind
  rw [e1]
  grind
theorem sR_up (h : 0 ≤ x) {k m : Nat} (hkm : k ≤ m) : sR x a b k ≤ sR x a b m := by
  obtain ⟨j, rfl⟩ := Nat.exists_eq_add_of_le hkm
  clear hkm
  induction j with
  | zero => exact Rat.le_refl
  | succ j ih =>
    have := rR_nn (a := a) (b := b) h (k + j + 1)
    show sR x a b k ≤ sR x a b (k + j) + rR x a b (k + j + 1)
    grind
/-- What is left out behind a late term is at most three times the term. -/
theorem sR_rest (h : 0 ≤ x) (h1 : x + x ≤ 1) {k m : Nat} (hk : b ≤ k) (hkm : k ≤ m) : sR x a b m + 3 * rR x a b m ≤ sR x a b k + 3 * rR x a b k := by
  obtain ⟨j, rfl⟩ := Nat.exists_eq_add_of_le hkm
  clear hkm
  induction j with
  | zero => exact Rat.le_refl
  | succ j ih =>
    have := rR_fall (a := a) h h1 (k := k + j) (show b ≤ k + j by omega)
    show sR x a b (k + j) + rR x a b (k + j + 1) + 3 * rR x a b (k + j + 1) ≤ _
    grind
/-- Any sum is at most a late one and three of its terms. -/
theorem sR_top (h : 0 ≤ x) (h1 : x + x ≤ 1) {k m : Nat} (hk : b ≤ k) : sR x a b m ≤ sR x a b k + 3 * rR x a b k := by
  rcases Nat.le_total m k with g | g
  · have := sR_up (a := a) (b := b) h g
    have := rR_nn (a := a) (b := b) h k
    grind
  · have := sR_rest (a := a) h h1 hk g
    have := rR_nn (a := a) (b := b) h m
    grind
end
end Go.Proofs.YtemnjalaincijaaGreat

/- At a half both shares are all: plain mathematics; the kernel reckons the pairs of halves. -/
namespace Go.Proofs.YtemnjalaincijaaGreat
open Go.Ev
set_option linter.unusedVariables false
/-- The root of a half, times 2 to 700, rounded up. -/
def rtH : Nat := 3719477765947668636936709211380910309956202648775464111520847020716952850542838341847190855169739343470753519934912401374452868910734655781951726854669216251345409387637183634523568089081173655040240750070105177
def S2 : Rat := mkRat (rtH : Int) (2 ^ 700)
/-- The row's terms and their sum at a half, over one number. -/
def hfGo (a b : Nat) : Nat → Nat → Nat → Nat → Nat → Nat × Nat × Nat
  | 0, _, n, d, s => (n, d, s)
  | f + 1, k, n, d, s => pin (n * (a + b + 2 * k)) fun n' => pin (2 * (a + 2 + 2 * k)) fun m => pin (d * m) fun d' => pin (s * m + n') fun s' => pin (k + 1) fun k' => hfGo a b f k' n' d' s'
theorem hfGo_is (a b : Nat) : ∀ (f k n d s : Nat), rR (1 / 2) a b k * (d : Rat) = (n : Rat) → sR (1 / 2) a b k * (d : Rat) = (s : Rat) → 0 < d →
    rR (1 / 2) a b (k + f) * ((hfGo a b f k n d s).2.1 : Rat) = ((hfGo a b f k n d s).1 : Rat) ∧ sR (1 / 2) a b (k + f) * ((hfGo a b f k n d s).2.1 : Rat) = ((hfGo a b f k n d s).2.2 : Rat) ∧ 0 < (hfGo a b f k n d s).2.1 := by
  intro f
  induction f with
  | zero => intro k n d s h1 h2 h3; exact ⟨h1, h2, h3⟩
  | succ f ih =>
    intro k n d s h1 h2 h3
    rw [hfGo]
    simp only [pin_eq]
    have c : ∀ u v : Nat, ((u * v : Nat) : Rat) = (u : Rat) * (v : Rat) := by intro u v; exact_mod_cast rfl
    have c2 : ∀ u v : Nat, ((u + v : Nat) : Rat) = (u : Rat) + (v : Rat) := by intro u v; exact_mod_cast rfl
    have M : (0 : Rat) < ((a + 2 + 2 * k : Nat) : Rat) := by exact_mod_cast (show 0 < a + 2 + 2 * k by omega)
    have r : rR (1 / 2) a b (k + 1) * ((d * (2 * (a + 2 + 2 * k)) : Nat) : Rat) = ((n * (a + b + 2 * k) : Nat) : Rat) := by
      have e : rR (1 / 2) a b (k + 1) = rR (1 / 2) a b k * (1 / 2) * ((a + b + 2 * k : Nat) : Rat) / ((a + 2 + 2 * k : Nat) : Rat) := rfl
      have e2 := Rat.div_mul_cancel (a := rR (1 / 2) a b k * (1 / 2) * ((a + b + 2 * k : Nat) : Rat)) (b := ((a + 2 + 2 * k : Nat) : Rat)) (by grind)
      rw [← e] at e2
      rw [c, c, c, ← h1]
      have two : ((2 : Nat) : Rat) = 2 := rfl
      have hh : (1 / 2 : Rat) * 2 = 1 := by decide +kernel
      rw [two]
      generalize ((a + 2 + 2 * k : Nat) : Rat) = m at *
      generalize ((a + b + 2 * k : Nat) : Rat) = q at *
      generalize rR (1 / 2) a b (k + 1) = z at *
      generalize (1 / 2 : Rat) = hf at *
      grind
    have sm : sR (1 / 2) a b (k + 1) * ((d * (2 * (a + 2 + 2 * k)) : Nat) : Rat) = ((s * (2 * (a + 2 + 2 * k)) + n * (a + b + 2 * k) : Nat) : Rat) := by
      have e : sR (1 / 2) a b (k + 1) = sR (1 / 2) a b k + rR (1 / 2) a b (k + 1) := rfl
      rw [e, c2, ← r, c s, ← h2, c d]
      generalize rR (1 / 2) a b (k + 1) = z at *
      generalize sR (1 / 2) a b k = y at *
      grind
    have := ih (k + 1) _ _ _ r sm (Nat.mul_pos h3 (by omega))
    rw [show k + 1 + f = k + (f + 1) by omega] at this
    exact this
/-- The share at a half, over one number: at least so, at most so. -/
def hfN (a b : Nat) : Nat × Nat × Nat :=
  pin ((beta2 a b).den * 2) fun D2 => pin ((beta2 a b).num.natAbs * a) fun N2 =>
  pin (rtH ^ (a % 2 + b % 2) * D2 * (if a % 2 * (b % 2) = 1 then 2 ^ 700 else 1)) fun u => pin (2 ^ (a / 2 + b / 2) * 2 ^ (700 * (a % 2 + b % 2)) * N2 * (if a % 2 * (b % 2) = 1 then piW else 1)) fun v =>
  match hfGo a b 120 0 1 1 1 with
  | (n, d, s) => pin (u * s) fun l => pin (u * (s + 3 * n)) fun h => pin (v * d) fun e => (l, h, e)
def hfOk (a b : Nat) : Bool := match hfN a b with
  | (l1, h1, e1) => match hfN b a with
    | (l2, h2, e2) => pin (l1 * e2 + l2 * e1) fun lo => pin (h1 * e2 + h2 * e1) fun hi => pin (e1 * e2) fun ee => Nat.ble ((2 ^ 66 - 1) * ee) (2 ^ 66 * lo) && Nat.ble (2 ^ 66 * hi) ((2 ^ 66 + 1) * ee)
theorem hf_ok1 : (List.range 20).all (fun j => hfOk 1 (1 + j)) = true := by decide +kernel
theorem hf_ok2 : (List.range 19).all (fun j => hfOk 2 (2 + j)) = true := by decide +kernel
theorem hf_ok3 : (List.range 18).all (fun j => hfOk 3 (3 + j)) = true := by decide +kernel
theorem hf_ok4 : (List.range 17).all (fun j => hfOk 4 (4 + j)) = true := by decide +kernel
theorem hf_ok5 : (List.range 16).all (fun j => hfOk 5 (5 + j)) = true := by decide +kernel
theorem hf_ok6 : (List.range 15).all (fun j => hfOk 6 (6 + j)) = true := by decide +kernel
theorem hf_ok7 : (List.range 14).all (fun j => hfOk 7 (7 + j)) = true := by decide +kernel
theorem hf_ok8 : (List.range 13).all (fun j => hfOk 8 (8 + j)) = true := by decide +kernel
theorem hf_ok9 : (List.range 12).all (fun j => hfOk 9 (9 + j)) = true := by decide +kernel
theorem hf_ok10 : (List.range 11).all (fun j => hfOk 10 (10 + j)) = true := by decide +kernel
theorem hf_ok11 : (List.range 10).all (fun j => hfOk 11 (11 + j)) = true := by decide +kernel
theorem hf_ok12 : (List.range 9).all (fun j => hfOk 12 (12 + j)) = true := by decide +kernel
theorem hf_ok13 : (List.range 8).all (fun j => hfOk 13 (13 + j)) = true := by decide +kernel
theorem hf_ok14 : (List.range 7).all (fun j => hfOk 14 (14 + j)) = true := by decide +kernel
theorem hf_ok15 : (List.range 6).all (fun j => hfOk 15 (15 + j)) = true := by decide +kernel
theorem hf_ok16 : (List.range 5).all (fun j => hfOk 16 (16 + j)) = true := by decide +kernel
theorem hf_ok17 : (List.range 4).all (fun j => hfOk 17 (17 + j)) = true := by decide +kernel
theorem hf_ok18 : (List.range 3).all (fun j => hfOk 18 (18 + j)) = true := by decide +kernel
theorem hf_ok19 : (List.range 2).all (fun j => hfOk 19 (19 + j)) = true := by decide +kernel
theorem hf_ok20 : (List.range 1).all (fun j => hfOk 20 (20 + j)) = true := by decide +kernel
theorem hf_all {a b : Nat} (h1 : 1 ≤ a) (h2 : a ≤ b) (h3 : b ≤ 20) : hfOk a b = true := by
  have g : ∀ c, (List.range (21 - c)).all (fun j => hfOk c (c + j)) = true → c ≤ b → hfOk c b = true := fun c h hc => by
    have := List.all_eq_true.1 h (b - c) (List.mem_range.2 (by omega))
    rwa [show c + (b - c) = b by omega] at this
  have hc : a = 1 ∨ a = 2 ∨ a = 3 ∨ a = 4 ∨ a = 5 ∨ a = 6 ∨ a = 7 ∨ a = 8 ∨ a = 9 ∨ a = 10 ∨ a = 11 ∨ a = 12 ∨ a = 13 ∨ a = 14 ∨ a = 15 ∨ a = 16 ∨ a = 17 ∨ a = 18 ∨ a = 19 ∨ a = 20 := by omega
  rcases hc with rfl | rfl | rfl | rfl | rfl | rfl | rfl | rfl | rfl | rfl | rfl | rfl | rfl | rfl | rfl | rfl | rfl | rfl | rfl | rfl
  · exact g 1 hf_ok1 h2
  · exact g 2 hf_ok2 h2
  · exact g 3 hf_ok3 h2
  · exact g 4 hf_ok4 h2
  · exact g 5 hf_ok5 h2
  · exact g 6 hf_ok6 h2
  · exact g 7 hf_ok7 h2
  · exact g 8 hf_ok8 h2
  · exact g 9 hf_ok9 h2
  · exact g 10 hf_ok10 h2
  · exact g 11 hf_ok11 h2
  · exact g 12 hf_ok12 h2
  · exact g 13 hf_ok13 h2
  · exact g 14 hf_ok14 h2
  · exact g 15 hf_ok15 h2
  · exact g 16 hf_ok16 h2
  · exact g 17 hf_ok17 h2
  · exact g 18 hf_ok18 h2
  · exact g 19 hf_ok19 h2
  · exact g 20 hf_ok20 h2
end Go.Proofs.YtemnjalaincijaaGreat

/- A point of any ball of a half's root, near the constant: plain mathematics. -/
namespace Go.Proofs.YtemnjalaincijaaGreat
open Go.Ev
set_option linter.unusedVariables false
theorem S2_mul : S2 * p2 700 = (rtH : Rat) := mk_p2n rtH 700
theorem sq_mon {x y : Rat} (hx : 0 ≤ x) (hy : 0 ≤ y) (h : x * x ≤ y * y) : x ≤ y := by
  rcases Rat.le_total (a := x) (b := y) with g | g
  · exact g
  · by_cases e : y = x
    · rw [e]; exact Rat.le_refl
    · have h1 : y < x := by grind
      have h2 : y * y ≤ x * y := Rat.mul_le_mul_of_nonneg_right g hy
      have h3 : x * y < x * x := by
        have : 0 < x * (x - y) := Rat.mul_pos (by grind) (by grind)
        grind
      grind
theorem S2_nn : 0 ≤ S2 := le_by (p2_pos 700) (by rw [S2_mul, Rat.zero_mul]; exact nat_nonneg _)
theorem cmN (a b : Nat) : ((a * b : Nat) : Rat) = (a : Rat) * (b : Rat) := by exact_mod_cast rfl
theorem cnN (a b : Nat) : ((a + b : Nat) : Rat) = (a : Rat) + (b : Rat) := by exact_mod_cast rfl
theorem S2_abs {r P Q : Nat} {S : Rat} (hP : 0 < P) (e : S * (P : Rat) = (r : Rat)) (n1 : P * P ≤ 2 * (r * r)) (n2 : Q * (2 * (r * r)) ≤ Q * (P * P) + 2 * (P * P)) : 1 / 2 ≤ S * S ∧ (S * S - 1 / 2) * (Q : Rat) ≤ 1 := by
  have P0 : (0 : Rat) < (P : Rat) := by exact_mod_cast hP
  have PP : 0 < (P : Rat) * (P : Rat) := Rat.mul_pos P0 P0
  have m1 := nat_le_rat n1
  have m2 := nat_le_rat n2
  have d1 : ((2 * (r * r) : Nat) : Rat) = 2 * ((r : Rat) * (r : Rat)) := by exact_mod_cast rfl
  have d2 : ((2 * (P * P) : Nat) : Rat) = 2 * ((P : Rat) * (P : Rat)) := by exact_mod_cast rfl
  rw [cmN, d1, ← e] at m1
  rw [cmN, cnN, cmN Q, d1, d2, cmN P, ← e] at m2
  have q : S * (P : Rat) * (S * (P : Rat)) = S * S * ((P : Rat) * (P : Rat)) := by grind
  rw [q] at m1 m2
  clear q n1 n2 d1 d2 e hP P0
  generalize (P : Rat) * (P : Rat) = Z at *
  generalize S * S = t at *
  generalize (Q : Rat) = u at *
  have hh : (1 / 2 : Rat) * 2 = 1 := by decide +kernel
  generalize (1 / 2 : Rat) = hf at *
  have f1 : hf * Z * 2 = Z := by
    have : hf * Z * 2 = hf * 2 * Z := by grind
    rw [this, hh, Rat.one_mul]
  have f2 : (t - hf) * u * Z * 2 = u * (2 * (t * Z)) - u * (hf * Z * 2) := by grind
  refine ⟨le_by PP ?_, le_by PP ?_⟩
  · grind
  · rw [f1] at f2
    grind
theorem S2_sq : 1 / 2 ≤ S2 * S2 ∧ (S2 * S2 - 1 / 2) * p2 690 ≤ 1 := by
  obtain ⟨E, hE⟩ : ∃ E : Nat, E = 690 := ⟨_, rfl⟩
  obtain ⟨F, hF⟩ : ∃ F : Nat, F = 700 := ⟨_, rfl⟩
  have m := S2_mul
  rw [← hF] at m
  have h := S2_abs (P := 2 ^ F) (Q := 2 ^ E) (Nat.pow_pos (by omega)) m (by rw [hF]; decide +kernel) (by rw [hE, hF]; decide +kernel)
  rw [← hE]
  exact h
theorem half_pt {p1 q1 : Rat} (h0 : 0 ≤ p1) (h1 : p1 ≤ q1) (h2 : p1 * p1 ≤ 1 / 2) (h3 : 1 / 2 ≤ q1 * q1) : ∃ s, p1 ≤ s ∧ s ≤ q1 ∧ s ≤ S2 ∧ (S2 - s) * p2 690 ≤ 1 := by
  obtain ⟨a1, a2⟩ := S2_sq
  have s0 := S2_nn
  have P := p2_pos 690
  have q0 : 0 ≤ q1 := Rat.le_trans h0 h1
  have hq : (1 / 2 : Rat) ≤ q1 := sq_mon (by decide +kernel) q0 (Rat.le_trans (by decide +kernel) h3)
  have hs : (1 / 2 : Rat) ≤ S2 := sq_mon (by decide +kernel) s0 (Rat.le_trans (by decide +kernel) a1)
  rcases Rat.le_total (a := S2) (b := q1) with g | g
  · exact ⟨S2, sq_mon h0 s0 (Rat.le_trans h2 a1), g, Rat.le_refl, by rw [Rat.sub_self, Rat.zero_mul]; decide⟩
  · refine ⟨q1, h1, Rat.le_refl, g, ?_⟩
    have hh : (1 / 2 : Rat) * 2 = 1 := by decide +kernel
    generalize (1 / 2 : Rat) = hf at *
    have k1 : (S2 - q1) * 1 ≤ (S2 - q1) * (S2 + q1) := Rat.mul_le_mul_of_nonneg_left (by grind) (by grind)
    have k2 : (S2 - q1) * (S2 + q1) = S2 * S2 - q1 * q1 := by grind
    have k3 : S2 - q1 ≤ S2 * S2 - hf := by grind
    have k4 := Rat.mul_le_mul_of_nonneg_right k3 (show 0 ≤ p2 690 by grind)
    exact Rat.le_trans k4 a2
end Go.Proofs.YtemnjalaincijaaGreat

/- incb.I of whole numbers; vernierlaw12.known, in the evaluator. -/
namespace Go.Proofs.YtemnjalaincijaaGreat
set_option linter.unusedSimpArgs false
set_option linter.unusedVariables false
set_option maxRecDepth 8000
open Go.Ev
section
variable {v : SV} {x : Rat} {A B p : Nat}
end
end Go.Proofs.YtemnjalaincijaaGreat

/- vernierlaw12.IncbSides at a half, and of any numbers, in the evaluator. -/
namespace Go.Proofs.YtemnjalaincijaaGreat
open Go.Ev
set_option linter.unusedVariables false
/-- A root, if there is one. -/
def rtF (a : Nat) (s : Rat) : Rat := if a % 2 = 1 then s else 1
theorem rtF_mon {t s S : Rat} (a : Nat) (h0 : 0 ≤ S) (h1 : s ≤ S) (h2 : t * S ≤ s) (ht : t ≤ 1) : t * rtF a S ≤ rtF a s ∧ rtF a s ≤ rtF a S ∧ 0 ≤ rtF a S := by
  unfold rtF
  split
  · exact ⟨h2, h1, h0⟩
  · exact ⟨by rw [Rat.mul_one]; exact ht, Rat.le_refl, by decide⟩
/-- The first term but for the roots. -/
def fsG (a b : Nat) : Rat := (pwR (1 / 2) (a / 2) * pwR (1 / 2) (b / 2)) * (((beta2 a b).den * 2 : Nat) : Rat) / (((beta2 a b).num.natAbs * a : Nat) : Rat) * (if a % 2 * (b % 2) = 1 then 1 / PI0 else 1)
theorem fstR_is (a b : Nat) (s s' : Rat) : fstR a b (1 / 2) s s' = fsG a b * (rtF a s * rtF b s') := by
  have e : (1 : Rat) - 1 / 2 = 1 / 2 := by decide +kernel
  unfold fstR fsG rtF
  rw [e, Rat.div_def, Rat.div_def]
  generalize (if a % 2 = 1 then s else 1) = u
  generalize (if b % 2 = 1 then s' else 1) = v
  generalize (if a % 2 * (b % 2) = 1 then 1 / PI0 else 1) = z
  generalize pwR (1 / 2) (a / 2) = f
  generalize pwR (1 / 2) (b / 2) = g
  grind
theorem inv_nn {x : Rat} (h : 0 < x) : 0 ≤ x⁻¹ := by have := Rat.inv_pos.2 h; grind
theorem PI0_pos : 0 < PI0 := by
  have P := p2_pos 700
  have h := PI0_mul
  have w : (0 : Rat) < (piW : Rat) := by exact_mod_cast (show 0 < piW by decide +kernel)
  rcases Rat.le_total (a := PI0) (b := 0) with g | g
  · have := Rat.mul_le_mul_of_nonneg_right g (show 0 ≤ p2 700 by grind)
    grind
  · by_cases h0 : PI0 = 0
    · rw [h0, Rat.zero_mul] at h; grind
    · grind
theorem fsG_nn {a b : Nat} (ha : 1 ≤ a) (hb : 1 ≤ b) (ha2 : a ≤ 20) (hb2 : b ≤ 20) : 0 ≤ fsG a b := by
  have h := (bet_ok ha hb ha2 hb2).2
  have N : (0 : Rat) < (((beta2 a b).num.natAbs * a : Nat) : Rat) := by exact_mod_cast h
  unfold fsG
  rw [Rat.div_def]
  refine Rat.mul_nonneg (Rat.mul_nonneg (Rat.mul_nonneg (Rat.mul_nonneg (pwR_nn (by decide +kernel) _) (pwR_nn (by decide +kernel) _)) (nat_nonneg _)) (inv_nn N)) ?_
  split
  · have := PI0_pos
    rw [Rat.div_def, Rat.one_mul]
    exact inv_nn this
  · decide
/-- A power of a half. -/
theorem pw_half : ∀ n, pwR (1 / 2) n * ((2 ^ n : Nat) : Rat) = 1
  | 0 => by show (1 : Rat) * ((1 : Nat) : Rat) = 1; decide +kernel
  | n + 1 => by
    have ih := pw_half n
    have c : ((2 ^ (n + 1) : Nat) : Rat) = ((2 ^ n : Nat) : Rat) * 2 := by rw [Nat.pow_succ, cmN]; rfl
    show pwR (1 / 2) n * (1 / 2) * _ = 1
    rw [c]
    have hh : (1 / 2 : Rat) * 2 = 1 := by decide +kernel
    have e : pwR (1 / 2) n * (1 / 2) * (((2 ^ n : Nat) : Rat) * 2) = pwR (1 / 2) n * ((2 ^ n : Nat) : Rat) * (1 / 2 * 2) := by
      generalize (1 / 2 : Rat) = hf
      grind
    rw [e, ih, hh]; decide +kernel
theorem rtF_S2 (a : Nat) : rtF a S2 * ((2 ^ (700 * (a % 2)) : Nat) : Rat) = ((rtH ^ (a % 2) : Nat) : Rat) := by
  obtain ⟨F, hF⟩ : ∃ F : Nat, F = 700 := ⟨_, rfl⟩
  have m := S2_mul
  rw [← hF] at m ⊢
  unfold rtF
  have h : a % 2 = 0 ∨ a % 2 = 1 := by omega
  rcases h with h | h
  · rw [h, if_neg (by omega), Nat.mul_zero, Nat.pow_zero, Nat.pow_zero]; decide +kernel
  · rw [h, if_pos rfl, Nat.mul_one, Nat.pow_one]
    exact m
/-- The share at a half: at least so, at most so. -/
theorem hf_pt {a b l h e : Nat} (ha : 1 ≤ a) (hb : 1 ≤ b) (ha2 : a ≤ 20) (hb2 : b ≤ 20) (hN : hfN a b = (l, h, e)) :
    fsG a b * (rtF a S2 * rtF b S2) * sR (1 / 2) a b 120 * (e : Rat) = (l : Rat) ∧ fsG a b * (rtF a S2 * rtF b S2) * (sR (1 / 2) a b 120 + 3 * rR (1 / 2) a b 120) * (e : Rat) = (h : Rat) ∧ (0 : Rat) < (e : Rat) := by
  have hk := (bet_ok ha hb ha2 hb2).2
  have g := hfGo_is a b 120 0 1 1 1 (by show (1 : Rat) * ((1 : Nat) : Rat) = _; decide +kernel) (by show (1 : Rat) * ((1 : Nat) : Rat) = _; decide +kernel) (by omega)
  unfold hfN at hN
  simp only [pin_eq] at hN
  rw [Nat.zero_add] at g
  generalize hfGo a b 120 0 1 1 1 = G at *
  obtain ⟨n, d, s⟩ := G
  simp only [Prod.mk.injEq] at hN
  simp only at g
  obtain ⟨g1, g2, g3⟩ := g
  obtain ⟨rfl, rfl, rfl⟩ := hN
  obtain ⟨D2, hD2⟩ : ∃ D, D = (beta2 a b).den * 2 := ⟨_, rfl⟩
  obtain ⟨N2, hN2⟩ : ∃ N, N = (beta2 a b).num.natAbs * a := ⟨_, rfl⟩
  have p1 := pw_half (a / 2)
  have p3 := pw_half (b / 2)
  have r1 := rtF_S2 a
  have r2 := rtF_S2 b
  unfold fsG
  rw [← hD2, ← hN2]
  rw [← hN2] at hk
  have N : (0 : Rat) < (N2 : Rat) := by exact_mod_cast hk
  have dv : ∀ y : Rat, y / (N2 : Rat) * (N2 : Rat) = y := fun y => Rat.div_mul_cancel (by grind)
  have pq : (if a % 2 * (b % 2) = 1 then 1 / PI0 else 1) * (((if a % 2 * (b % 2) = 1 then piW else 1 : Nat)) : Rat) = ((if a % 2 * (b % 2) = 1 then 2 ^ 700 else 1 : Nat) : Rat) := by
    split
    · have P := PI0_pos
      rw [← PI0_mul, Rat.div_def, Rat.one_mul, ← Rat.mul_assoc, Rat.inv_mul_cancel _ (by grind), Rat.one_mul]
    · decide +kernel
  have n0 : 0 < (if a % 2 * (b % 2) = 1 then piW else 1) := by split <;> decide +kernel
  have cS : ((2 ^ (700 * (a % 2 + b % 2)) : Nat) : Rat) = ((2 ^ (700 * (a % 2)) : Nat) : Rat) * ((2 ^ (700 * (b % 2)) : Nat) : Rat) := by
    rw [← cmN, ← Nat.pow_add, ← Nat.mul_add]
  have cH : ((2 ^ (a / 2 + b / 2) : Nat) : Rat) = ((2 ^ (a / 2) : Nat) : Rat) * ((2 ^ (b / 2) : Nat) : Rat) := by rw [← cmN, ← Nat.pow_add]
  have cR : ((rtH ^ (a % 2 + b % 2) : Nat) : Rat) = ((rtH ^ (a % 2) : Nat) : Rat) * ((rtH ^ (b % 2) : Nat) : Rat) := by rw [← cmN, ← Nat.pow_add]
  have c3 : ((s + 3 * n : Nat) : Rat) = (s : Rat) + 3 * (n : Rat) := by exact_mod_cast rfl
  obtain ⟨q1, hq1⟩ : ∃ z : Rat, z = (if a % 2 * (b % 2) = 1 then 1 / PI0 else 1) := ⟨_, rfl⟩
  obtain ⟨q2, hq2⟩ : ∃ z : Nat, z = (if a % 2 * (b % 2) = 1 then piW else 1) := ⟨_, rfl⟩
  obtain ⟨q3, hq3⟩ : ∃ z : Nat, z = (if a % 2 * (b % 2) = 1 then 2 ^ 700 else 1) := ⟨_, rfl⟩
  rw [← hq1, ← hq2, ← hq3] at pq
  rw [← hq2] at n0
  rw [← hq1, ← hq2, ← hq3]
  clear hq1 hq2 hq3
  obtain ⟨z1, hz1⟩ : ∃ z : Nat, z = 2 ^ (700 * (a % 2)) := ⟨_, rfl⟩
  obtain ⟨z2, hz2⟩ : ∃ z : Nat, z = 2 ^ (700 * (b % 2)) := ⟨_, rfl⟩
  obtain ⟨z5, hz5⟩ : ∃ z : Nat, z = 2 ^ (700 * (a % 2 + b % 2)) := ⟨_, rfl⟩
  have n5 : 0 < z5 := by rw [hz5]; exact Nat.pow_pos (by omega)
  have n6 : 0 < 2 ^ (a / 2 + b / 2) := Nat.pow_pos (by omega)
  rw [← hz1] at r1
  rw [← hz2] at r2
  rw [← hz1, ← hz2, ← hz5] at cS
  rw [← hz5]
  clear hz1 hz2 hz5
  generalize pwR (1 / 2) (a / 2) = w1 at *
  generalize pwR (1 / 2) (b / 2) = w2 at *
  generalize rtF a S2 = f1 at *
  generalize rtF b S2 = f2 at *
  generalize sR (1 / 2) a b 120 = sr at *
  generalize rR (1 / 2) a b 120 = rr at *
  generalize rtH ^ (a % 2 + b % 2) = h5 at *
  generalize rtH ^ (a % 2) = h3 at *
  generalize rtH ^ (b % 2) = h4 at *
  generalize 2 ^ (a / 2 + b / 2) = z6 at *
  generalize 2 ^ (a / 2) = z3 at *
  generalize 2 ^ (b / 2) = z4 at *
  have d2 := dv (w1 * w2 * (D2 : Rat))
  generalize w1 * w2 * (D2 : Rat) / (N2 : Rat) = y at *
  have key : y * q1 * (f1 * f2) * ((z6 * z5 * N2 * q2 : Nat) : Rat) = ((h5 * D2 * q3 : Nat) : Rat) := by
    rw [cmN, cmN, cmN z6, cS, cH, cmN, cmN h5, cR, ← pq, ← r1, ← r2]
    have e1 : y * q1 * (f1 * f2) * ((z3 : Rat) * (z4 : Rat) * ((z1 : Rat) * (z2 : Rat)) * (N2 : Rat) * (q2 : Rat)) = (y * (N2 : Rat)) * ((z3 : Rat) * (z4 : Rat)) * (q1 * (q2 : Rat)) * (f1 * (z1 : Rat) * (f2 * (z2 : Rat))) := by grind
    have e2 : (w1 * w2 * (D2 : Rat)) * ((z3 : Rat) * (z4 : Rat)) * (q1 * (q2 : Rat)) * (f1 * (z1 : Rat) * (f2 * (z2 : Rat))) = (w1 * (z3 : Rat)) * (w2 * (z4 : Rat)) * (f1 * (z1 : Rat) * (f2 * (z2 : Rat)) * (D2 : Rat) * (q1 * (q2 : Rat))) := by grind
    rw [e1, d2, e2, p1, p3, Rat.one_mul, Rat.one_mul]
  have vp : 0 < z6 * z5 * N2 * q2 := Nat.mul_pos (Nat.mul_pos (Nat.mul_pos n6 n5) hk) n0
  generalize z6 * z5 * N2 * q2 = v at *
  generalize h5 * D2 * q3 = u at *
  clear d2 dv cS cH cR pq r1 r2 p1 p3 N n0 n5 n6 hk hN2 hD2
  generalize y * q1 * (f1 * f2) = C at *
  refine ⟨?_, ?_, ?_⟩
  · rw [cmN, cmN, ← key, ← g2]
    grind
  · rw [cmN, cmN, c3, ← key, ← g2, ← g1]
    grind
  · exact_mod_cast Nat.mul_pos vp g3
/-- Both shares at a half, at least and at most. -/
def hfLo (a b : Nat) : Rat := fsG a b * (rtF a S2 * rtF b S2) * sR (1 / 2) a b 120
def hfHi (a b : Nat) : Rat := fsG a b * (rtF a S2 * rtF b S2) * (sR (1 / 2) a b 120 + 3 * rR (1 / 2) a b 120)
theorem hf_sum1 {a b : Nat} (ha : 1 ≤ a) (hb : 1 ≤ b) (ha2 : a ≤ 20) (hb2 : b ≤ 20) (h : hfOk a b = true) :
    73786976294838206463 ≤ 73786976294838206464 * (hfLo a b + hfLo b a) ∧ 73786976294838206464 * (hfHi a b + hfHi b a) ≤ 73786976294838206465 := by
  unfold hfLo hfHi
  have p1 := hf_pt (l := (hfN a b).1) (h := (hfN a b).2.1) (e := (hfN a b).2.2) ha hb ha2 hb2 rfl
  have p2 := hf_pt (l := (hfN b a).1) (h := (hfN b a).2.1) (e := (hfN b a).2.2) hb ha hb2 ha2 rfl
  unfold hfOk at h
  generalize hfN a b = X1 at *
  generalize hfN b a = X2 at *
  obtain ⟨l1, h1, e1⟩ := X1
  obtain ⟨l2, h2, e2⟩ := X2
  simp only [pin_eq, Bool.and_eq_true] at h
  obtain ⟨k1, k2⟩ := h
  have m1 := nat_le_rat (Nat.le_of_ble_eq_true k1)
  have m2 := nat_le_rat (Nat.le_of_ble_eq_true k2)
  obtain ⟨a1, a2, a3⟩ := p1
  obtain ⟨b1, b2, b3⟩ := p2
  simp only at a1 a2 a3 b1 b2 b3
  have E := Rat.mul_pos a3 b3
  rw [cmN, cmN, cmN, cnN, cmN l1, cmN l2, ← a1, ← b1] at m1
  rw [cmN, cmN, cmN, cnN, cmN h1, cmN h2, ← a2, ← b2] at m2
  rw [show ((2 ^ 66 - 1 : Nat) : Rat) = 73786976294838206463 from rfl, show ((2 ^ 66 : Nat) : Rat) = 73786976294838206464 from rfl] at m1
  rw [show ((2 ^ 66 + 1 : Nat) : Rat) = 73786976294838206465 from rfl, show ((2 ^ 66 : Nat) : Rat) = 73786976294838206464 from rfl] at m2
  clear a1 a2 b1 b2 k1 k2
  generalize fsG a b * (rtF a S2 * rtF b S2) * sR (1 / 2) a b 120 = u1 at *
  generalize fsG b a * (rtF b S2 * rtF a S2) * sR (1 / 2) b a 120 = u2 at *
  generalize fsG a b * (rtF a S2 * rtF b S2) * (sR (1 / 2) a b 120 + 3 * rR (1 / 2) a b 120) = u3 at *
  generalize fsG b a * (rtF b S2 * rtF a S2) * (sR (1 / 2) b a 120 + 3 * rR (1 / 2) b a 120) = u4 at *
  generalize (e1 : Rat) = x1 at *
  generalize (e2 : Rat) = x2 at *
  refine ⟨le_by E ?_, le_by E ?_⟩
  · have : 73786976294838206464 * (u1 + u2) * (x1 * x2) = 73786976294838206464 * (u1 * x1 * x2 + u2 * x2 * x1) := by grind
    rw [this]; exact m1
  · have : 73786976294838206464 * (u3 + u4) * (x1 * x2) = 73786976294838206464 * (u3 * x1 * x2 + u4 * x2 * x1) := by grind
    rw [this]; exact m2
theorem hf_sum {a b : Nat} (ha : 1 ≤ a) (hb : 1 ≤ b) (ha2 : a ≤ 20) (hb2 : b ≤ 20) :
    73786976294838206463 ≤ 73786976294838206464 * (hfLo a b + hfLo b a) ∧ 73786976294838206464 * (hfHi a b + hfHi b a) ≤ 73786976294838206465 := by
  rcases Nat.le_total a b with h | h
  · exact hf_sum1 ha hb ha2 hb2 (hf_all ha h hb2)
  · have := hf_sum1 hb ha hb2 ha2 (hf_all hb h ha2)
    rw [Rat.add_comm (hfLo a b), Rat.add_comm (hfHi a b)]
    exact this
/-- 1 but for a little. -/
def tau : Rat := 1 - 1 / 1267650600228229401496703205376
theorem tau_abs {s S u d D hf : Rat} (h1 : s ≤ S) (h2 : (S - s) * u ≤ 1) (hs : hf ≤ S) (hh : hf * 2 = 1) (hD : 0 < D) (e : d * D = 1) (hp : 2 * D ≤ u) : (1 - d) * S ≤ s := by
  have h3 := Rat.mul_le_mul_of_nonneg_left hp (show 0 ≤ S - s by grind)
  refine le_by hD ?_
  have : (1 - d) * S * D = D * S - S * (d * D) := by grind
  rw [this, e]
  have e2 : (S - s) * (2 * D) = 2 * (D * S) - 2 * (s * D) := by grind
  rw [e2] at h3
  grind
theorem tau_pt {s : Rat} (h1 : s ≤ S2) (h2 : (S2 - s) * p2 690 ≤ 1) : tau * S2 ≤ s := by
  have hs : (1 / 2 : Rat) ≤ S2 := sq_mon (by decide +kernel) S2_nn (Rat.le_trans (by decide +kernel) S2_sq.1)
  have hp : (2 * 1267650600228229401496703205376 : Rat) ≤ p2 690 := by
    obtain ⟨E, hE⟩ : ∃ E : Nat, E = 690 := ⟨_, rfl⟩
    rw [← hE]
    have : 2 ^ 101 ≤ 2 ^ E := Nat.pow_le_pow_right (by omega) (by omega)
    exact Rat.le_trans (show _ ≤ ((2 ^ 101 : Nat) : Rat) by decide +kernel) (nat_le_rat this)
  exact tau_abs h1 h2 hs (by decide +kernel) (by decide +kernel) (by decide +kernel) hp
theorem tau_ok : 0 ≤ tau ∧ tau ≤ 1 ∧ 73786976294838206462 ≤ tau * tau * 73786976294838206463 := by decide +kernel
theorem sR_nnH {x : Rat} {a b : Nat} (h : 0 ≤ x) (k : Nat) : 0 ≤ sR x a b k := Rat.le_trans (show (0 : Rat) ≤ 1 by decide) (sR_up (a := a) (b := b) h (Nat.zero_le k))
theorem half_row {a b p : Nat} (ha : 1 ≤ a) (ha2 : a ≤ 20) (hb : 1 ≤ b) (hb2 : b ≤ 20) (hp : p ≤ 60) :
    ∃ A B : Nat, Go.Ev.Fn CX 197 [.int .i64 (a : Int), .int .i64 (b : Int), rv (1 / 2), .int .i64 ((p + 300 : Nat) : Int)] (spanV A B) ∧ A ≤ B ∧ (lim A).length ≤ 100 ∧ (lim B).length ≤ 100 ∧
      (A : Rat) ≤ hfHi a b * p2 (p + 300) ∧ tau * tau * hfLo a b * p2 (p + 300) ≤ (B : Rat) := by
  have hz : szR (1 / 2) 1 := ⟨lim_len_lt (by decide +kernel), lim_len_lt (by decide +kernel)⟩
  have h0 : (0 : Rat) ≤ 1 / 2 := by decide +kernel
  have h1 : (1 / 2 : Rat) + 1 / 2 ≤ 1 := by decide +kernel
  obtain ⟨F1, F2, p1, p2', q1, q2, fi, g1, g2, g3, r1, r2, r3, r4, r5, r6, r7, r8, hF⟩ := incb_fst (w := p + 300) ha ha2 hb hb2 hz (by omega) (by omega) h0 (by decide +kernel) (by omega) (by omega)
  obtain ⟨A, B, K, hg⟩ := rowh_ends ha hb2 h0 h1 (by omega) (by omega) g1 g2 g3
  obtain ⟨k1, k2, k3⟩ := rowh_bd ha hb2 h0 h1 (by omega) g1 g2 g3 hg
  have f := incb_rowh ha ha2 hb hb2 hz (by omega) h0 h1 (by omega) (by omega) fi g1 g2 g3 hg
  have lB := lim_len_p2 k3 (by omega)
  have e2 : (1 : Rat) - 1 / 2 = 1 / 2 := by decide +kernel
  rw [e2] at r7 r8
  obtain ⟨s, s1, s2, s3, s4⟩ := half_pt r2 r1 r3 r4
  obtain ⟨s', s1', s2', s3', s4'⟩ := half_pt r6 r5 r7 r8
  have en := hF s s' s1 s2 s1' s2'
  have en1 : Enc (p + 300) F1 F2 (fstR a b (1 / 2) s s' * rR (1 / 2) a b 0) := by
    show Enc _ _ _ (_ * 1)
    rw [Rat.mul_one]; exact en
  have en2 : Enc (p + 300) F1 F2 (fstR a b (1 / 2) s s' * sR (1 / 2) a b 0) := en1
  obtain ⟨hbK, e3, e4, e5⟩ := row_enc (un_enc h0 (p + 300)) 2201 0 _ _ _ _ hg en1 en2
  have t1 := sR_top (a := a) (b := b) h0 h1 (k := 120) (m := K) (by omega)
  have t2 := sR_top (a := a) (b := b) h0 h1 (k := K) (m := 120) hbK
  obtain ⟨u1, u2, u3⟩ := tau_ok
  obtain ⟨a1, a2, a3⟩ := rtF_mon (t := tau) a S2_nn s3 (tau_pt s3 s4) u2
  obtain ⟨b1, b2, b3⟩ := rtF_mon (t := tau) b S2_nn s3' (tau_pt s3' s4') u2
  have G := fsG_nn ha hb ha2 hb2
  refine ⟨A, B, f, k1, Nat.le_trans (lim_len_mono k1) (by omega), by omega, ?_, ?_⟩
  all_goals
    (try unfold hfHi)
    (try unfold hfLo)
    rw [fstR_is] at e3 e4 e5
    have P := p2_pos (p + 300)
    have c0 : 0 ≤ rtF a s := Rat.le_trans (Rat.mul_nonneg u1 a3) a1
    have c1 : 0 ≤ rtF b s' := Rat.le_trans (Rat.mul_nonneg u1 b3) b1
    have w0 := sR_nnH (a := a) (b := b) h0 K
    have w2 := rR_nn (a := a) (b := b) h0 120
    have w3 := sR_nnH (a := a) (b := b) h0 120
    have w4 := rR_nn (a := a) (b := b) h0 K
    generalize (1 / 2 : Rat) = hf at *
    generalize sR hf a b 120 = v1 at *
    generalize rR hf a b 120 = v2 at *
    generalize sR hf a b K = v3 at *
    generalize rR hf a b K = v4 at *
    generalize rtF a s = x1 at *
    generalize rtF b s' = x2 at *
    generalize rtF a S2 = y1 at *
    generalize rtF b S2 = y2 at *
    generalize fsG a b = c at *
    generalize p2 (p + 300) = W at *
    clear fi g1 g2 g3 hF hg f en en1 en2 k3 lB
  · have m1 : x1 * x2 ≤ y1 * y2 := Rat.le_trans (Rat.mul_le_mul_of_nonneg_right a2 c1) (Rat.mul_le_mul_of_nonneg_left b2 a3)
    have m2 := Rat.mul_le_mul_of_nonneg_left m1 G
    have m3 : c * (x1 * x2) * v3 ≤ c * (y1 * y2) * (v1 + 3 * v2) := Rat.le_trans (Rat.mul_le_mul_of_nonneg_right m2 w0) (Rat.mul_le_mul_of_nonneg_left t1 (Rat.mul_nonneg G (Rat.mul_nonneg a3 b3)))
    exact Rat.le_trans e3 (Rat.mul_le_mul_of_nonneg_right m3 (Rat.le_of_lt P))
  · have m1 : tau * y1 * (tau * y2) ≤ x1 * x2 := Rat.le_trans (Rat.mul_le_mul_of_nonneg_right a1 (Rat.mul_nonneg u1 b3)) (Rat.mul_le_mul_of_nonneg_left b1 c0)
    have m2 := Rat.mul_le_mul_of_nonneg_left m1 G
    have m3 : c * (tau * y1 * (tau * y2)) * v1 ≤ c * (x1 * x2) * (v3 + 3 * v4) := Rat.le_trans (Rat.mul_le_mul_of_nonneg_right m2 w3) (Rat.mul_le_mul_of_nonneg_left t2 (Rat.mul_nonneg G (Rat.mul_nonneg c0 c1)))
    have m4 := Rat.mul_le_mul_of_nonneg_right m3 (Rat.le_of_lt P)
    have e6 : tau * tau * (c * (y1 * y2) * v1) * W = c * (tau * y1 * (tau * y2)) * v1 * W := by grind
    rw [e6]
    refine Rat.le_trans m4 ?_
    have e7 : c * (x1 * x2) * (v3 + 3 * v4) * W = c * (x1 * x2) * v3 * W + 3 * (c * (x1 * x2) * v4 * W) := by grind
    rw [e7]
    grind
theorem told_abs {A1 A2 B1 B2 M E : Nat} (hE : 0 < E) (hM : M ≤ 2 ^ 62) (h1 : (A1 + A2) * 73786976294838206464 ≤ 73786976294838206465 * (M * E)) (h2 : 73786976294838206462 * (M * E) ≤ (B1 + B2) * 73786976294838206464) :
    A1 / E + A2 / E ≤ M ∧ M ≤ B1 / E + 1 + (B2 / E + 1) := by
  have d1 := Nat.div_mul_le_self A1 E
  have d2 := Nat.div_mul_le_self A2 E
  have d3 := Nat.lt_mul_div_succ B1 hE
  have d4 := Nat.lt_mul_div_succ B2 hE
  generalize A1 / E = x1 at *
  generalize A2 / E = x2 at *
  generalize B1 / E = y1 at *
  generalize B2 / E = y2 at *
  constructor
  · have k : (x1 + x2) * 73786976294838206464 * E ≤ 73786976294838206465 * M * E := by
      rw [Nat.mul_assoc 73786976294838206465]
      refine Nat.le_trans ?_ h1
      have : (x1 + x2) * 73786976294838206464 * E = (x1 * E + x2 * E) * 73786976294838206464 := by rw [← Nat.add_mul, Nat.mul_assoc, Nat.mul_comm _ E, ← Nat.mul_assoc]
      rw [this]
      exact Nat.mul_le_mul_right _ (Nat.add_le_add d1 d2)
    have := Nat.le_of_mul_le_mul_right k hE
    omega
  · have k : 73786976294838206462 * M * E ≤ (y1 + 1 + (y2 + 1)) * 73786976294838206464 * E := by
      rw [Nat.mul_assoc 73786976294838206462]
      refine Nat.le_trans h2 ?_
      have : (y1 + 1 + (y2 + 1)) * 73786976294838206464 * E = (E * (y1 + 1) + E * (y2 + 1)) * 73786976294838206464 := by rw [← Nat.mul_add, Nat.mul_assoc, Nat.mul_comm _ E, Nat.mul_comm E, ← Nat.mul_assoc, Nat.mul_comm E, Nat.mul_assoc, Nat.mul_assoc]; congr 1; rw [Nat.mul_comm]
      rw [this]
      exact Nat.mul_le_mul_right _ (Nat.add_le_add (Nat.le_of_lt d3) (Nat.le_of_lt d4))
    have := Nat.le_of_mul_le_mul_right k hE
    omega
/-- Balls that are told as sums within a little of 1 hold 1 together. -/
theorem told_sum {A1 A2 B1 B2 p : Nat} (hp : p ≤ 60) (h1 : (A1 + A2) * 73786976294838206464 ≤ 73786976294838206465 * 2 ^ (p + 300)) (h2 : 73786976294838206462 * 2 ^ (p + 300) ≤ (B1 + B2) * 73786976294838206464) :
    toldLo A1 p + toldLo A2 p ≤ 1 ∧ 1 ≤ toldHi B1 p + toldHi B2 p := by
  unfold toldLo toldHi
  have P := p2_pos (p + 2)
  obtain ⟨F, hF⟩ : ∃ F : Nat, F = p + 300 - (p + 2) := ⟨_, rfl⟩
  rw [← hF]
  have hw : 2 ^ (p + 300) = 2 ^ (p + 2) * 2 ^ F := by rw [← Nat.pow_add]; congr 1; omega
  rw [hw] at h1 h2
  obtain ⟨k1, k2⟩ := told_abs (Nat.pow_pos (by omega)) (Nat.pow_le_pow_right (by omega) (by omega)) h1 h2
  have m1 := mk_p2n (A1 / 2 ^ F) (p + 2)
  have m2 := mk_p2n (A2 / 2 ^ F) (p + 2)
  have m3 := mk_p2n (B1 / 2 ^ F + 1) (p + 2)
  have m4 := mk_p2n (B2 / 2 ^ F + 1) (p + 2)
  have n1 := nat_le_rat k1
  have n2 := nat_le_rat k2
  rw [cnN, ← m1, ← m2] at n1
  rw [cnN (B1 / 2 ^ F + 1), ← m3, ← m4] at n2
  change _ ≤ p2 (p + 2) at n1
  change p2 (p + 2) ≤ _ at n2
  refine ⟨le_by P ?_, le_by P ?_⟩
  · rw [Rat.one_mul, Rat.add_mul]; exact n1
  · rw [Rat.one_mul, Rat.add_mul]; exact n2
section
variable {x : Rat} {a b p : Nat} {s : Bool} {n d : List Nat}
/-- At a half both balls, of a and b and of b and a, hold 1 together. -/
theorem half_pair (ha : 1 ≤ a) (ha2 : a ≤ 20) (hb : 1 ≤ b) (hb2 : b ≤ 20) (hp : p ≤ 60) :
    ∃ A1 B1 A2 B2 : Nat, Go.Ev.Fn CX 197 [.int .i64 (a : Int), .int .i64 (b : Int), rv (1 / 2), .int .i64 ((p + 300 : Nat) : Int)] (spanV A1 B1) ∧ Go.Ev.Fn CX 197 [.int .i64 (b : Int), .int .i64 (a : Int), rv (1 / 2), .int .i64 ((p + 300 : Nat) : Int)] (spanV A2 B2) ∧
      A1 ≤ B1 ∧ (lim A1).length ≤ 100 ∧ (lim B1).length ≤ 100 ∧ (lim A2).length ≤ 100 ∧ (lim B2).length ≤ 100 ∧ toldLo A1 p + toldLo A2 p ≤ 1 ∧ 1 ≤ toldHi B1 p + toldHi B2 p := by
  obtain ⟨A1, B1, f1, l0, l1, l2, a1, b1⟩ := half_row (p := p) ha ha2 hb hb2 hp
  obtain ⟨A2, B2, f2, -, l3, l4, a2, b2⟩ := half_row (p := p) hb hb2 ha ha2 hp
  obtain ⟨s1, s2⟩ := hf_sum ha hb ha2 hb2
  obtain ⟨u1, u2, u3⟩ := tau_ok
  have W := p2_pos (p + 300)
  have t := told_sum (A1 := A1) (A2 := A2) (B1 := B1) (B2 := B2) hp (by
    have k : (((A1 + A2) * 73786976294838206464 : Nat) : Rat) ≤ ((73786976294838206465 * 2 ^ (p + 300) : Nat) : Rat) := by
      rw [cmN, cmN, cnN]
      show ((A1 : Rat) + (A2 : Rat)) * 73786976294838206464 ≤ 73786976294838206465 * p2 (p + 300)
      have m := Rat.mul_le_mul_of_nonneg_right s2 (show 0 ≤ p2 (p + 300) by grind)
      clear f1 f2
      generalize p2 (p + 300) = w at *
      generalize hfHi a b = q1 at *
      generalize hfHi b a = q2 at *
      grind
    exact_mod_cast k) (by
    have k : ((73786976294838206462 * 2 ^ (p + 300) : Nat) : Rat) ≤ (((B1 + B2) * 73786976294838206464 : Nat) : Rat) := by
      rw [cmN, cmN, cnN]
      show 73786976294838206462 * p2 (p + 300) ≤ ((B1 : Rat) + (B2 : Rat)) * 73786976294838206464
      have m1 := Rat.mul_le_mul_of_nonneg_left s1 (Rat.mul_nonneg u1 u1)
      have m2 := Rat.mul_le_mul_of_nonneg_right (Rat.le_trans u3 m1) (show 0 ≤ p2 (p + 300) by grind)
      clear f1 f2
      generalize p2 (p + 300) = w at *
      generalize hfLo a b = q1 at *
      generalize hfLo b a = q2 at *
      generalize tau = t at *
      have e3 : t * t * (73786976294838206464 * (q1 + q2)) * w = (t * t * q1 * w + t * t * q2 * w) * 73786976294838206464 := by grind
      rw [e3] at m2
      grind
    exact_mod_cast k)
  exact ⟨A1, B1, A2, B2, f1, f2, l0, l1, l2, l3, l4, t.1, t.2⟩
end
end Go.Proofs.YtemnjalaincijaaGreat

/- dist: one, student, chance, Cdf, Above of Student's and Fisher's distributions, in the evaluator. -/
namespace Go.Proofs.YtemnjalaincijaaGreat
set_option linter.unusedSimpArgs false
set_option linter.unusedVariables false
set_option maxRecDepth 8000
open Go.Ev
set_option linter.unusedVariables false
theorem hfQ_len : szR (1 / 2) 1 := ⟨lim_len_lt (by decide +kernel), lim_len_lt (by decide +kernel)⟩
theorem one_len : szR 1 1 := ⟨lim_len_lt (by decide +kernel), lim_len_lt (by decide +kernel)⟩
/-- Both turned round are all: two balls. -/
theorem incb_pair {y : Rat} {a b p L : Nat} (hz : szR y L) (hL1 : 1 ≤ L) (hL : L ≤ 190) (ha : 1 ≤ a) (ha2 : a ≤ 20) (hb : 1 ≤ b) (hb2 : b ≤ 20) (hp : p ≤ 60) (h0 : 0 < y) (h1 : y < 1) :
    ∃ l h l' h' : Rat, Go.Ev.Fn CX 167 [.int .i64 (a : Int), .int .i64 (b : Int), rv y, .int .i64 (p : Int)] (.tup [ballR l h, .bool true]) ∧ Go.Ev.Fn CX 167 [.int .i64 (b : Int), .int .i64 (a : Int), rv (1 - y), .int .i64 (p : Int)] (.tup [ballR l' h', .bool true]) ∧
      szR l 200 ∧ szR h 200 ∧ szR l' 200 ∧ szR h' 200 ∧ l ≤ h ∧ l + l' ≤ 1 ∧ 1 ≤ h + h' := by
  have zy := szR_sub one_len hz (by omega)
  have key : ∀ A B A' B' : Nat, (lim A).length ≤ 100 → (lim B).length ≤ 100 → (lim A').length ≤ 100 → (lim B').length ≤ 100 → szR (toldLo A p) 200 ∧ szR (toldHi B p) 200 ∧ szR (1 - toldHi B' p) 200 ∧ szR (1 - toldLo A' p) 200 := by
    intro A B A' B' g1 g2 g3 g4
    obtain ⟨z1, z2⟩ := told_sz (p := p) (by omega) g1 g2
    obtain ⟨z3, z4⟩ := told_sz (p := p) (by omega) g3 g4
    exact ⟨szR_mono z1 (by omega), szR_mono z2 (by omega), szR_mono (szR_sub one_len z4 (by omega)) (by omega), szR_mono (szR_sub one_len z3 (by omega)) (by omega)⟩
  by_cases e : y = 1 / 2
  · subst e
    have e2 : (1 : Rat) - 1 / 2 = 1 / 2 := by decide +kernel
    obtain ⟨A, B, A', B', f, f', g0, g1, g2, g3, g4, t1, t2⟩ := half_pair (p := p) ha ha2 hb hb2 hp
    have i1 := incb_I_lo (RatA_rv hz) hL1 (by omega) ha ha2 hb hb2 (by omega) h0 (by decide +kernel) f ⟨g1, g2⟩
    have i2 := incb_I_lo (v := rv (1 / 2)) (RatA_rv hz) hL1 (by omega) hb hb2 ha ha2 (by omega) h0 (by decide +kernel) f' ⟨g3, g4⟩
    obtain ⟨z1, z2, -, -⟩ := key A B A' B' g1 g2 g3 g4
    obtain ⟨z3, z4, -, -⟩ := key A' B' A B g3 g4 g1 g2
    exact ⟨_, _, _, _, i1, by rw [e2]; exact i2, z1, z2, z3, z4, told_le g0, t1, t2⟩
  · have hh : (1 / 2 : Rat) * 2 = 1 := by decide +kernel
    by_cases hy : y + y ≤ 1
    · have hy2 : y + y < 1 := by
        rcases Rat.le_total (a := 1) (b := y + y) with g | g
        · exact absurd (show y = 1 / 2 by generalize (1 / 2 : Rat) = q at *; grind) e
        · generalize (1 / 2 : Rat) = q at *; grind
      obtain ⟨A, B, f, g0, g1, g2⟩ := row_told (a := a) (b := b) (p := p) hz hL1 (by omega) ha ha2 hb hb2 hp (Rat.le_of_lt h0) hy
      have i1 := incb_I_lo (RatA_rv hz) hL1 (by omega) ha ha2 hb hb2 (by omega) h0 hy f ⟨g1, g2⟩
      have e3 : 1 - (1 - y) = y := by grind
      have i2 := incb_I_hi (a := b) (b := a) (p := p) (x := 1 - y) (RatA_rv zy) (by omega) (by omega) hb hb2 ha ha2 (by omega) (by grind) (by grind) (by rw [e3]; exact f) ⟨g1, g2⟩
      obtain ⟨z1, z2, z3, z4⟩ := key A B A B g1 g2 g1 g2
      have le := told_le (p := p) g0
      exact ⟨_, _, _, _, i1, i2, z1, z2, z3, z4, le, by grind, by grind⟩
    · have hy' : 1 < y + y := by grind
      obtain ⟨A, B, f, g0, g1, g2⟩ := row_told (a := b) (b := a) (p := p) zy (by omega) (by omega) hb hb2 ha ha2 hp (show 0 ≤ 1 - y by grind) (by grind)
      have i1 := incb_I_hi (a := a) (b := b) (p := p) (RatA_rv hz) hL1 (by omega) ha ha2 hb hb2 (by omega) hy' h1 f ⟨g1, g2⟩
      have i2 := incb_I_lo (a := b) (b := a) (p := p) (RatA_rv zy) (by omega) (by omega) hb hb2 ha ha2 (by omega) (by grind) (by grind) f ⟨g1, g2⟩
      obtain ⟨z1, z2, z3, z4⟩ := key A B A B g1 g2 g1 g2
      have le := told_le (p := p) g0
      exact ⟨_, _, _, _, i1, i2, z3, z4, z1, z2, by grind, by grind, by grind⟩
theorem lo_half {l h : Rat} (g : l ≤ h) : loL (l * (1 / 2)) [l * (1 / 2), h * (1 / 2), h * (1 / 2)] = l * (1 / 2) ∧ hiL (l * (1 / 2)) [l * (1 / 2), h * (1 / 2), h * (1 / 2)] = h * (1 / 2) := by
  have g2 := Rat.mul_le_mul_of_nonneg_right g (show (0 : Rat) ≤ 1 / 2 by decide +kernel)
  generalize l * (1 / 2) = u at *
  generalize h * (1 / 2) = v at *
  constructor
  · simp only [loL, List.foldl_cons, List.foldl_nil, mnR]
    repeat (first | rw [if_neg (by grind)] | rfl)
  · simp only [hiL, List.foldl_cons, List.foldl_nil, mxR]
    rw [if_neg (show ¬ u < u by grind)]
    by_cases e : u < v
    · rw [if_pos e, if_neg (show ¬ v < v by grind)]
    · rw [if_neg e, if_neg e]; grind
theorem dist_one : Go.Ev.Fn CX 113 [] (ballR 1 1) := by
  have i1 := rat_Int 1 (by omega)
  have o := ball_Of (RatA_rv (int_szR (n := 1) (by omega))) (by omega)
  rw [show ((1 : Int) : Rat) = 1 from rfl] at i1 o
  refine Go.Ev.Fn.intro (fn := Tryz.f113) (body := (Tryz.f113).body.get!) (by kernel_rfl) (by kernel_rfl) (by kernel_rfl) (fun _ => rfl) (Nat.le_of_ble_eq_true (by kernel_rfl)) ?_; unfold Tryz.f113; simp only [Option.get!_some]
  repeat (first | (simp only [go_sem, Nat.reduceEqDiff, Nat.reduceAdd, Nat.reduceSub, Nat.reduceMul, Nat.reduceLeDiff, Nat.reduceLT, reduceIte, reduceCtorEq, Nat.succ_ne_zero, elemsC, Int.reduceToNat, Nat.reducePow]) | (simp (disch := (first | omega | (simp only [AL, List.length_map]; omega))) only [AR, AL, ifT, ifF, take_all, List.length_cons, List.length_nil, Int.reduceToNat, Int.reducePow, Nat.reducePow]) | (refine wk_intro (by kernel_rfl) ?_) | (refine vf_of (by first | exact i1 | exact o) ?_))
section
variable {n m p : Int} {x l h : Rat} {v : SV} {L : Nat}
/-- Where Student's chance is looked up. -/
def stuY (n : Int) (x : Rat) : Rat := (n : Rat) / ((n : Rat) + x * x)
theorem stuY_sz (hn : 1 ≤ n ∧ n ≤ 256) (hx : szR x L) (hL1 : 1 ≤ L) : szR (stuY n x) (2 * L + 8) := by
  have i := int_szR (n := n) (by omega)
  exact szR_mono (szR_div i (szR_add i (szR_mul hx hx hL1) (by omega)) (by omega) (by omega)) (by omega)
/-- Student's chance, of a number below 0 and of one that is not. -/
def stuB (x l h : Rat) : Rat × Rat := if x < 0 then (l * (1 / 2), h * (1 / 2)) else (1 - h * (1 / 2), 1 - l * (1 / 2))
theorem dist_student (hn : 1 ≤ n ∧ n ≤ 256) (hx : RatA v x L) (hL1 : 1 ≤ L) (hL : L ≤ 80) (f : Go.Ev.Fn CX 167 [.int .i64 n, .int .i64 1, rv (stuY n x), .int .i64 p] (.tup [ballR l h, .bool true])) (z1 : szR l 200) (z2 : szR h 200) (g : l ≤ h) :
    Go.Ev.Fn CX 164 [.int .i64 n, v, .int .i64 p] (.tup [ballR (stuB x l h).1 (stuB x l h).2, .bool true]) := by
  have zx := szR_of hx hL1
  have i := int_szR (n := n) (by omega)
  have rn := rat_Int n (by omega)
  have mu := rat_Mul hx hx hL1 hL1 (by omega)
  have ad := rat_Add (RatA_rv i) (RatA_rv (szR_mul zx zx hL1)) (by omega) (by omega) (by omega)
  have ov := dist_over (RatA_rv i) (RatA_rv (szR_add i (szR_mul zx zx hL1) (by omega))) (by omega) (by omega) (by omega)
  have pt := dist_part 1 2 (by omega) (by omega)
  rw [show ((1 : Int) : Rat) / ((2 : Int) : Rat) = 1 / 2 from rfl] at pt
  have o := ball_Of (RatA_rv hfQ_len) (by omega)
  have bm := ball_Mul (L := 200) z1 z2 (szR_mono hfQ_len (by omega)) (szR_mono hfQ_len (by omega)) (by omega) (by omega)
  rw [(lo_half g).1, (lo_half g).2] at bm
  have bl := dist_below hx hL1 (by omega) 0 (by omega)
  rw [show ((0 : Int) : Rat) = 0 from rfl] at bl
  have d1 := dist_one
  have bs := ball_Sub (a := 1) (b := 1) (L := 300) (szR_mono one_len (by omega)) (szR_mono one_len (by omega)) (szR_mono (szR_mul z1 hfQ_len (by omega)) (by omega)) (szR_mono (szR_mul z2 hfQ_len (by omega)) (by omega)) (by omega) (by omega)
  unfold stuB
  unfold stuY at f
  clear g z1 z2 zx i
  obtain ⟨s, nn, dd, rfl, -⟩ := hx
  generalize (n : Rat) / ((n : Rat) + x * x) = y at *
  generalize (n : Rat) + x * x = y2 at *
  generalize x * x = y3 at *
  generalize l * (1 / 2) = l2 at *
  generalize h * (1 / 2) = h2 at *
  generalize (1 / 2 : Rat) = hf at *
  by_cases hx0 : x < 0
  · rw [decide_eq_true hx0] at bl
    rw [if_pos hx0]
    refine Go.Ev.Fn.intro (fn := Tryz.f164) (body := (Tryz.f164).body.get!) (by kernel_rfl) (by kernel_rfl) (by kernel_rfl) (fun _ => rfl) (Nat.le_of_ble_eq_true (by kernel_rfl)) ?_; unfold Tryz.f164; simp only [Option.get!_some]
    repeat (first | (simp only [go_sem, Nat.reduceEqDiff, Nat.reduceAdd, Nat.reduceSub, Nat.reduceMul, Nat.reduceLeDiff, Nat.reduceLT, reduceIte, reduceCtorEq, Nat.succ_ne_zero, elemsC, Int.reduceToNat, Nat.reducePow, Bool.not_true]) | (simp (disch := (first | omega | (simp only [AL, List.length_map]; omega))) only [AR, AL, ifT, ifF, take_all, List.length_cons, List.length_nil, Int.reduceToNat, Int.reducePow, Nat.reducePow, Bool.not_true]) | (refine wk_intro (by kernel_rfl) ?_) | (refine vp_draw (id := 2) (l := []) (by kernel_rfl) ?_) | (refine vp_draw (id := 3) (l := []) (by kernel_rfl) ?_) | (refine vp_draw (id := 5) (l := []) (by kernel_rfl) ?_) | (refine vf_of (by first | exact rn | exact mu | exact ad | exact ov | exact f | exact pt | exact o | exact bm | exact bl) ?_))
  · rw [decide_eq_false hx0] at bl
    rw [if_neg hx0]
    generalize 1 - h2 = u1 at *
    generalize 1 - l2 = u2 at *
    refine Go.Ev.Fn.intro (fn := Tryz.f164) (body := (Tryz.f164).body.get!) (by kernel_rfl) (by kernel_rfl) (by kernel_rfl) (fun _ => rfl) (Nat.le_of_ble_eq_true (by kernel_rfl)) ?_; unfold Tryz.f164; simp only [Option.get!_some]
    repeat (first | (simp only [go_sem, Nat.reduceEqDiff, Nat.reduceAdd, Nat.reduceSub, Nat.reduceMul, Nat.reduceLeDiff, Nat.reduceLT, reduceIte, reduceCtorEq, Nat.succ_ne_zero, elemsC, Int.reduceToNat, Nat.reducePow, Bool.not_false]) | (simp (disch := (first | omega | (simp only [AL, List.length_map]; omega))) only [AR, AL, ifT, ifF, take_all, List.length_cons, List.length_nil, Int.reduceToNat, Int.reducePow, Nat.reducePow, Bool.not_false]) | (refine wk_intro (by kernel_rfl) ?_) | (refine vp_draw (id := 2) (l := []) (by kernel_rfl) ?_) | (refine vp_draw (id := 3) (l := []) (by kernel_rfl) ?_) | (refine vp_draw (id := 5) (l := []) (by kernel_rfl) ?_) | (refine vf_of (by first | exact rn | exact mu | exact ad | exact ov | exact f | exact pt | exact o | exact bm | exact bl | exact d1 | exact bs) ?_))
theorem chance_student {sa sb : Bool} {na da nb db : List Nat} {m : Int} {r : SV} (hx : RatA v x L) (f : Go.Ev.Fn CX 164 [.int .i64 n, v, .int .i64 p] r) (hr : ∃ a b : Rat, r = .tup [ballR a b, .bool true]) :
    Go.Ev.Fn CX 111 [distV 5 n m sa na da sb nb db, v, .int .i64 p] r := by
  obtain ⟨s, nn, dd, rfl, -⟩ := hx
  obtain ⟨a, b, rfl⟩ := hr
  refine Go.Ev.Fn.intro (fn := Tryz.f111) (body := (Tryz.f111).body.get!) (by kernel_rfl) (by kernel_rfl) (by kernel_rfl) (fun _ => rfl) (Nat.le_of_ble_eq_true (by kernel_rfl)) ?_; unfold Tryz.f111; simp only [Option.get!_some]
  repeat (first | (simp only [go_sem, Nat.reduceEqDiff, Nat.reduceAdd, Nat.reduceSub, Nat.reduceMul, Nat.reduceLeDiff, Nat.reduceLT, reduceIte, reduceCtorEq, Nat.succ_ne_zero, elemsC, Int.reduceToNat, Nat.reducePow]) | (simp (disch := (first | omega | (simp only [AL, List.length_map]; omega))) only [AR, AL, ifT, ifF, take_all, List.length_cons, List.length_nil, Int.reduceToNat, Int.reducePow, Nat.reducePow]) | (refine wk_intro (by kernel_rfl) ?_) | (refine vp_draw (id := 3) (l := []) (by kernel_rfl) ?_) | (refine vp_draw (id := 11) (l := []) (by kernel_rfl) ?_) | (refine vp_draw (id := 13) (l := []) (by kernel_rfl) ?_) | (refine vp_draw (id := 15) (l := []) (by kernel_rfl) ?_) | (refine vp_draw (id := 17) (l := []) (by kernel_rfl) ?_) | (refine vp_draw (id := 18) (l := []) (by kernel_rfl) ?_) | (refine vp_draw (id := 24) (l := []) (by kernel_rfl) ?_) | (refine vp_draw (id := 26) (l := []) (by kernel_rfl) ?_) | (refine vf_of (by first | exact f) ?_))
end
end Go.Proofs.YtemnjalaincijaaGreat
