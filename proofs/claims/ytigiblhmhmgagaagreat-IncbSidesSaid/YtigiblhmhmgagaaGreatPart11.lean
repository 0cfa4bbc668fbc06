/- Part 11 of the proof: the evaluator, contracts of functions and their plain laws (joined by program). No condition. -/
import Derived.Test.YtigiblhmhmgagaaGreatPart10
/- incb.I of whole numbers; vernierlaw12.known, in the evaluator. -/
namespace Go.Proofs.YtigiblhmhmgagaaGreat
set_option linter.unusedSimpArgs false
set_option linter.unusedVariables false
set_option maxRecDepth 8000
open Go.Ev
section
variable {v : SV} {x : Rat} {A B p : Nat}
/-- Of whole numbers the share is told: it lies in the ball, which is as narrow as asked. -/
theorem incb_I (hv : RatA v x 1) (hA : 1 ≤ A) (hB : 1 ≤ B) (hAB : A + B ≤ 10) (hp : p ≤ 60) (h0 : 0 ≤ x) (h1 : x ≤ 1) : ∃ lo hi : Rat, Go.Ev.Fn CX 8 [.int .i64 (2 * (A : Int)), .int .i64 (2 * (B : Int)), v, .int .i64 (p : Int)] (.tup [ballR lo hi, .bool true]) ∧
    lo ≤ sS x (1 - x) (A + B - 1) B ∧ sS x (1 - x) (A + B - 1) B ≤ hi ∧ (hi - lo) * p2 p ≤ 1 ∧ szR lo 110 ∧ szR hi 110 := by
  have zx := szR_of hv (by omega)
  have hP := p2_pos p
  have one1 : szR 1 1 := ⟨lim_len_lt (by decide +kernel), lim_len_lt (by decide +kernel)⟩
  have fin : ∀ {A' B' : Nat}, (lim A').length ≤ 100 → (lim B').length ≤ 100 → szR (mkRat ((A' / 2 ^ (p + 300 - (p + 2)) : Nat) : Int) (2 ^ (p + 2))) 101 ∧ szR (mkRat ((B' / 2 ^ (p + 300 - (p + 2)) + 1 : Nat) : Int) (2 ^ (p + 2))) 101 := by
    intro A' B' hA' hB'
    have l3 := lim_len_mono (Nat.div_le_self A' (2 ^ (p + 300 - (p + 2))))
    have l4 := lim_len_mono (Nat.div_le_self B' (2 ^ (p + 300 - (p + 2))))
    have l1 := lim_len1
    have l5 := lim_len_add (a := B' / 2 ^ (p + 300 - (p + 2))) (b := 1) (L := 100) (by omega) (by omega)
    have lp := lim_len_shl (a := 1) (n := p + 2)
    rw [Nat.one_mul] at lp
    exact ⟨szR_mk (s := false) (n := A' / 2 ^ (p + 300 - (p + 2))) (d := 2 ^ (p + 2)) (L := 101) (by omega) (by omega) (by omega), szR_mk (s := false) (n := B' / 2 ^ (p + 300 - (p + 2)) + 1) (d := 2 ^ (p + 2)) (L := 101) (by omega) (by omega) (by omega)⟩
  by_cases hx0 : x = 0
  · have f := incb_I_ends (a := 2 * (A : Int)) (b := 2 * (B : Int)) (pI := (p : Int)) hv (by omega) (by omega) (by omega) (by omega) (.inl hx0)
    subst hx0
    have hz : ∀ j, j ≤ B → sS 0 (1 - 0) (A + B - 1) j = 0 := by
      intro j
      induction j with
      | zero => intro _; rfl
      | succ j ih =>
        intro hj
        show sS 0 (1 - 0) (A + B - 1) j + trm 0 (1 - 0) (A + B - 1) j = 0
        rw [ih (by omega)]
        unfold trm
        rw [show A + B - 1 - j = (A + B - 2 - j) + 1 by omega, pwR_succ]
        grind
    rw [hz B (Nat.le_refl _)]
    exact ⟨0, 0, f, Rat.le_refl, Rat.le_refl, by rw [Rat.sub_self, Rat.zero_mul]; decide, szR_mono zx (by omega), szR_mono zx (by omega)⟩
  by_cases hx1 : x = 1
  · have f := incb_I_ends (a := 2 * (A : Int)) (b := 2 * (B : Int)) (pI := (p : Int)) hv (by omega) (by omega) (by omega) (by omega) (.inr hx1)
    subst hx1
    have hz : ∀ j, j < B → sS 1 (1 - 1) (A + B - 1) (j + 1) = 1 := by
      intro j
      induction j with
      | zero =>
        intro _
        show 0 + trm 1 (1 - 1) (A + B - 1) 0 = 1
        unfold trm
        have e : ∀ n, pwR 1 n = 1 := by
          intro n
          induction n with
          | zero => rfl
          | succ n ih => rw [pwR_succ, ih, Rat.mul_one]
        rw [cc_zero, e]
        show (0 : Rat) + ((1 : Nat) : Rat) * 1 * 1 = 1
        decide +kernel
      | succ j ih =>
        intro hj
        show sS 1 (1 - 1) (A + B - 1) (j + 1) + trm 1 (1 - 1) (A + B - 1) (j + 1) = 1
        rw [ih (by omega)]
        unfold trm
        rw [pwR_succ]
        grind
    have hB2 := hz (B - 1) (by omega)
    rw [show B - 1 + 1 = B by omega] at hB2
    rw [hB2]
    exact ⟨1, 1, f, Rat.le_refl, Rat.le_refl, by rw [Rat.sub_self, Rat.zero_mul]; decide, szR_mono zx (by omega), szR_mono zx (by omega)⟩
  have hpos : 0 < x := by clear fin; grind
  have hlt : x < 1 := by clear fin; grind
  by_cases hh : x + x ≤ 1
  · obtain ⟨-, -, A', B', K, hg⟩ := row_ends (w := p + 300) hA hB hAB h0 hh (by omega) (by omega)
    obtain ⟨g1, g2, g3, g4⟩ := row_has hA hB hAB h0 hh (by omega) (by omega) hg
    have lB := lim_len_p2 g4 (by omega)
    have lA : (lim A').length ≤ 100 := by
      have : A' ≤ B' := by
        have h := Rat.le_trans g1 g2
        exact_mod_cast h
      exact Nat.le_trans (lim_len_mono this) (by omega)
    have f := incb_I_low hv (by omega) (by omega) hA hB hAB hp hpos hh hg ⟨lA, by omega⟩
    obtain ⟨t1, t2, t3⟩ := told_has g1 g2 g3
    obtain ⟨z1, z2⟩ := fin lA (show (lim B').length ≤ 100 by omega)
    exact ⟨_, _, f, t1, t2, t3, szR_mono z1 (by omega), szR_mono z2 (by omega)⟩
  · have hh' : 1 < x + x := by clear fin; grind
    have hy : (1 - x) + (1 - x) ≤ 1 := by clear fin; grind
    have hy0 : 0 ≤ 1 - x := by clear fin; grind
    obtain ⟨-, -, A', B', K, hg⟩ := row_ends (x := 1 - x) (w := p + 300) hB hA (by omega) hy0 hy (by omega) (by omega)
    obtain ⟨g1, g2, g3, g4⟩ := row_has hB hA (by omega) hy0 hy (by omega) (by omega) hg
    have lB := lim_len_p2 g4 (by omega)
    have lA : (lim A').length ≤ 100 := by
      have : A' ≤ B' := by
        have h := Rat.le_trans g1 g2
        exact_mod_cast h
      exact Nat.le_trans (lim_len_mono this) (by omega)
    have f := incb_I_high hv (by omega) (by omega) hA hB hAB hp hh' hlt hg ⟨lA, by omega⟩
    obtain ⟨t1, t2, t3⟩ := told_has g1 g2 g3
    obtain ⟨z1, z2⟩ := fin lA (show (lim B').length ≤ 100 by omega)
    have tn := sS_turn (x := x) (y := 1 - x) (by clear fin hg f t1 t2 t3 g1 g2 g3 g4; grind) (n := A + B - 1) B (by omega)
    rw [show A + B - 1 + 1 - B = A by omega] at tn
    rw [show 1 - (1 - x) = x by clear fin hg f t1 t2 t3 g1 g2 g3 g4; grind, show B + A - 1 = A + B - 1 by omega] at t1 t2
    refine ⟨_, _, f, ?_, ?_, ?_, szR_mono (szR_sub one1 z2 (by omega)) (by omega), szR_mono (szR_sub one1 z1 (by omega)) (by omega)⟩
    all_goals clear hg f fin g1 g2 g3 g4 lA lB z1 z2
    all_goals
      generalize mkRat ((B' / 2 ^ (p + 300 - (p + 2)) + 1 : Nat) : Int) (2 ^ (p + 2)) = q2 at *
      generalize mkRat ((A' / 2 ^ (p + 300 - (p + 2)) : Nat) : Int) (2 ^ (p + 2)) = q1 at *
    · grind
    · grind
    · have e : 1 - q1 - (1 - q2) = q2 - q1 := by grind
      rw [e]; exact t3
end
theorem third_len : szR (mkRat 1 3) 1 := ⟨lim_len_lt (by decide +kernel), lim_len_lt (by decide +kernel)⟩
theorem known12 : Go.Ev.Fn CX 7 [] (.bool true) := by
  have o := ref2_Of false [1] [3] (by simp [okL]) (by simp [okL]) (by simp) (by simp)
  rw [show wth [1] = 1 from rfl, show wth [3] = 3 from rfl] at o
  have o' : Go.Ev.Fn CX 19 [.bool false, .sl 1 [.int .u32 1], .sl 1 [.int .u32 3]] (rv (mkRat 1 3)) := o
  obtain ⟨lo, hi, f, g1, g2, g3, z1, z2⟩ := incb_I (A := 1) (B := 1) (p := 20) (RatA_rv third_len) (by omega) (by omega) (by omega) (by omega) (by decide +kernel) (by decide +kernel)
  have hV : sS (mkRat 1 3) (1 - mkRat 1 3) (1 + 1 - 1) 1 = mkRat 1 3 := by
    show 0 + ((cc 1 0 : Nat) : Rat) * (1 * mkRat 1 3) * 1 = _
    rw [cc_zero]
    have : ((1 : Nat) : Rat) = 1 := rfl
    rw [this]; grind
  rw [hV] at g1 g2
  have f' : Go.Ev.Fn CX 8 [.int .i64 2, .int .i64 2, rv (mkRat 1 3), .int .i64 20] (.tup [ballR lo hi, .bool true]) := f
  have of := ref4_Of (RatA_rv third_len) (by omega)
  have gd := ref4_Good (p := 20) (P := 20) (.inr rfl) (by omega) z1 z2 third_len third_len (by omega) (by omega) (by omega) (Rat.le_trans g1 g2) g2 g1 g3
  clear f o hV g1 g2 g3
  generalize mkRat 1 3 = t at *
  refine Go.Ev.Fn.intro (fn := Tryz.f7) (body := (Tryz.f7).body.get!) (by kernel_rfl) (by kernel_rfl) (by kernel_rfl) (fun _ => rfl) (Nat.le_of_ble_eq_true (by kernel_rfl)) ?_; unfold Tryz.f7; simp only [Option.get!_some]
  repeat (first | (simp only [go_sem, Nat.reduceEqDiff, Nat.reduceAdd, Nat.reduceSub, Nat.reduceMul, Nat.reduceLeDiff, Nat.reduceLT, reduceIte, reduceCtorEq, Nat.succ_ne_zero, elemsC, Int.reduceToNat, Nat.reducePow]) | (simp (disch := (first | omega | (simp only [AL, List.length_map]; omega))) only [AR, AL, ifT, ifF, take_all, List.length_cons, List.length_nil, Int.reduceToNat, Int.reducePow, Nat.reducePow]) | (refine wk_intro (by kernel_rfl) ?_) | (refine vp_draw (id := 3) (l := []) (by kernel_rfl) ?_) | (refine vf_of (by first | exact o' | exact f' | exact of | exact gd) ?_))
end Go.Proofs.YtigiblhmhmgagaaGreat

/- vernierlaw12.IncbSides at a half, and of any numbers, in the evaluator. -/
namespace Go.Proofs.YtigiblhmhmgagaaGreat
open Go.Ev
set_option linter.unusedVariables false
/-- A root, if there is one. -/
def rtF (a : Nat) (s : Rat) : Rat := if a % 2 = 1 then s else 1
theorem rtF_mon {t s S : Rat} (a : Nat) (h0 : 0 ≤ S) (h1 : s ≤ S) (h2 : t * S ≤ s) (ht : t ≤ 1) : t * rtF a S ≤ rtF a s ∧ rtF a s ≤ rtF a S ∧ 0 ≤ rtF a S := by
  unfold rtF
  split
  · exact ⟨h2, h1, h0⟩
  · exact ⟨by rw [Rat.mul_one]; exact ht, Rat.le_refl, by decide⟩
/-- The first term but for the roots. -/
def fsG (a b : Nat) : Rat := (pwR (1 / 2) (a / 2) * pwR (1 / 2) (b / 2)) * (((beta2 a b).den * 2 : Nat) : Rat) / (((beta2 a b).num.natAbs * a : Nat) : Rat) * (if a % 2 * (b % 2) = 1 then 1 / PI0 else 1)
theorem fstR_is (a b : Nat) (s s' : Rat) : fstR a b (1 / 2) s s' = fsG a b * (rtF a s * rtF b s') := by
  have e : (1 : Rat) - 1 / 2 = 1 / 2 := by decide +kernel
  unfold fstR fsG rtF
  rw [e, Rat.div_def, Rat.div_def]
  generalize (if a % 2 = 1 then s else 1) = u
  generalize (if b % 2 = 1 then s' else 1) = v
  generalize (if a % 2 * (b % 2) = 1 then 1 / PI0 else 1) = z
  generalize pwR (1 / 2) (a / 2) = f
  generalize pwR (1 / 2) (b / 2) = g
  grind
theorem inv_nn {x : Rat} (h : 0 < x) : 0 ≤ x⁻¹ := by have := Rat.inv_pos.2 h; grind
theorem PI0_pos : 0 < PI0 := by
  have P := p2_pos 700
  have h := PI0_mul
  have w : (0 : Rat) < (piW : Rat) := by exact_mod_cast (show 0 < piW by decide +kernel)
  rcases Rat.le_total (a := PI0) (b := 0) with g | g
  · have := Rat.mul_le_mul_of_nonneg_right g (show 0 ≤ p2 700 by grind)
    grind
  · by_cases h0 : PI0 = 0
    · rw [h0, Rat.zero_mul] at h; grind
    · grind
theorem fsG_nn {a b : Nat} (ha : 1 ≤ a) (hb : 1 ≤ b) (ha2 : a ≤ 20) (hb2 : b ≤ 20) : 0 ≤ fsG a b := by
  have h := (bet_ok ha hb ha2 hb2).2
  have N : (0 : Rat) < (((beta2 a b).num.natAbs * a : Nat) : Rat) := by exact_mod_cast h
  unfold fsG
  rw [Rat.div_def]
  refine Rat.mul_nonneg (Rat.mul_nonneg (Rat.mul_nonneg (Rat.mul_nonneg (pwR_nn (by decide +kernel) _) (pwR_nn (by decide +kernel) _)) (nat_nonneg _)) (inv_nn N)) ?_
  split
  · have := PI0_pos
    rw [Rat.div_def, Rat.one_mul]
    exact inv_nn this
  · decide
/-- A power of a half. -/
theorem pw_half : ∀ n, pwR (1 / 2) n * ((2 ^ n : Nat) : Rat) = 1
  | 0 => by show (1 : Rat) * ((1 : Nat) : Rat) = 1; decide +kernel
  | n + 1 => by
    have ih := pw_half n
    have c : ((2 ^ (n + 1) : Nat) : Rat) = ((2 ^ n : Nat) : Rat) * 2 := by rw [Nat.pow_succ, cmN]; rfl
    show pwR (1 / 2) n * (1 / 2) * _ = 1
    rw [c]
    have hh : (1 / 2 : Rat) * 2 = 1 := by decide +kernel
    have e : pwR (1 / 2) n * (1 / 2) * (((2 ^ n : Nat) : Rat) * 2) = pwR (1 / 2) n * ((2 ^ n : Nat) : Rat) * (1 / 2 * 2) := by
      generalize (1 / 2 : Rat) = hf
      grind
    rw [e, ih, hh]; decide +kernel
theorem rtF_S2 (a : Nat) : rtF a S2 * ((2 ^ (700 * (a % 2)) : Nat) : Rat) = ((rtH ^ (a % 2) : Nat) : Rat) := by
  obtain ⟨F, hF⟩ : ∃ F : Nat, F = 700 := ⟨_, rfl⟩
  have m := S2_mul
  rw [← hF] at m ⊢
  unfold rtF
  have h : a % 2 = 0 ∨ a % 2 = 1 := by omega
  rcases h with h | h
  · rw [h, if_neg (by omega), Nat.mul_zero, Nat.pow_zero, Nat.pow_zero]; decide +kernel
  · rw [h, if_pos rfl, Nat.mul_one, Nat.pow_one]
    exact m
/-- The share at a half: at least so, at most so. -/
theorem hf_pt {a b l h e : Nat} (ha : 1 ≤ a) (hb : 1 ≤ b) (ha2 : a ≤ 20) (hb2 : b ≤ 20) (hN : hfN a b = (l, h, e)) :
    fsG a b * (rtF a S2 * rtF b S2) * sR (1 / 2) a b 120 * (e : Rat) = (l : Rat) ∧ fsG a b * (rtF a S2 * rtF b S2) * (sR (1 / 2) a b 120 + 3 * rR (1 / 2) a b 120) * (e : Rat) = (h : Rat) ∧ (0 : Rat) < (e : Rat) := by
  have hk := (bet_ok ha hb ha2 hb2).2
  have g := hfGo_is a b 120 0 1 1 1 (by show (1 : Rat) * ((1 : Nat) : Rat) = _; decide +kernel) (by show (1 : Rat) * ((1 : Nat) : Rat) = _; decide +kernel) (by omega)
  unfold hfN at hN
  simp only [pin_eq] at hN
  rw [Nat.zero_add] at g
  generalize hfGo a b 120 0 1 1 1 = G at *
  obtain ⟨n, d, s⟩ := G
  simp only [Prod.mk.injEq] at hN
  simp only at g
  obtain ⟨g1, g2, g3⟩ := g
  obtain ⟨rfl, rfl, rfl⟩ := hN
  obtain ⟨D2, hD2⟩ : ∃ D, D = (beta2 a b).den * 2 := ⟨_, rfl⟩
  obtain ⟨N2, hN2⟩ : ∃ N, N = (beta2 a b).num.natAbs * a := ⟨_, rfl⟩
  have p1 := pw_half (a / 2)
  have p3 := pw_half (b / 2)
  have r1 := rtF_S2 a
  have r2 := rtF_S2 b
  unfold fsG
  rw [← hD2, ← hN2]
  rw [← hN2] at hk
  have N : (0 : Rat) < (N2 : Rat) := by exact_mod_cast hk
  have dv : ∀ y : Rat, y / (N2 : Rat) * (N2 : Rat) = y := fun y => Rat.div_mul_cancel (by grind)
  have pq : (if a % 2 * (b % 2) = 1 then 1 / PI0 else 1) * (((if a % 2 * (b % 2) = 1 then piW else 1 : Nat)) : Rat) = ((if a % 2 * (b % 2) = 1 then 2 ^ 700 else 1 : Nat) : Rat) := by
    split
    · have P := PI0_pos
      rw [← PI0_mul, Rat.div_def, Rat.one_mul, ← Rat.mul_assoc, Rat.inv_mul_cancel _ (by grind), Rat.one_mul]
    · decide +kernel
  have n0 : 0 < (if a % 2 * (b % 2) = 1 then piW else 1) := by split <;> decide +kernel
  have cS : ((2 ^ (700 * (a % 2 + b % 2)) : Nat) : Rat) = ((2 ^ (700 * (a % 2)) : Nat) : Rat) * ((2 ^ (700 * (b % 2)) : Nat) : Rat) := by
    rw [← cmN, ← Nat.pow_add, ← Nat.mul_add]
  have cH : ((2 ^ (a / 2 + b / 2) : Nat) : Rat) = ((2 ^ (a / 2) : Nat) : Rat) * ((2 ^ (b / 2) : Nat) : Rat) := by rw [← cmN, ← Nat.pow_add]
  have cR : ((rtH ^ (a % 2 + b % 2) : Nat) : Rat) = ((rtH ^ (a % 2) : Nat) : Rat) * ((rtH ^ (b % 2) : Nat) : Rat) := by rw [← cmN, ← Nat.pow_add]
  have c3 : ((s + 3 * n : Nat) : Rat) = (s : Rat) + 3 * (n : Rat) := by exact_mod_cast rfl
  obtain ⟨q1, hq1⟩ : ∃ z : Rat, z = (if a % 2 * (b % 2) = 1 then 1 / PI0 else 1) := ⟨_, rfl⟩
  obtain ⟨q2, hq2⟩ : ∃ z : Nat, z = (if a % 2 * (b % 2) = 1 then piW else 1) := ⟨_, rfl⟩
  obtain ⟨q3, hq3⟩ : ∃ z : Nat, z = (if a % 2 * (b % 2) = 1 then 2 ^ 700 else 1) := ⟨_, rfl⟩
  rw [← hq1, ← hq2, ← hq3] at pq
  rw [← hq2] at n0
  rw [← hq1, ← hq2, ← hq3]
  clear hq1 hq2 hq3
  obtain ⟨z1, hz1⟩ : ∃ z : Nat, z = 2 ^ (700 * (a % 2)) := ⟨_, rfl⟩
  obtain ⟨z2, hz2⟩ : ∃ z : Nat, z = 2 ^ (700 * (b % 2)) := ⟨_, rfl⟩
  obtain ⟨z5, hz5⟩ : ∃ z : Nat, z = 2 ^ (700 * (a % 2 + b % 2)) := ⟨_, rfl⟩
  have n5 : 0 < z5 := by rw [hz5]; exact Nat.pow_pos (by omega)
  have n6 : 0 < 2 ^ (a / 2 + b / 2) := Nat.pow_pos (by omega)
  rw [← hz1] at r1
  rw [← hz2] at r2
  rw [← hz1, ← hz2, ← hz5] at cS
  rw [← hz5]
  clear hz1 hz2 hz5
  generalize pwR (1 / 2) (a / 2) = w1 at *
  generalize pwR (1 / 2) (b / 2) = w2 at *
  generalize rtF a S2 = f1 at *
  generalize rtF b S2 = f2 at *
  generalize sR (1 / 2) a b 120 = sr at *
  generalize rR (1 / 2) a b 120 = rr at *
  generalize rtH ^ (a % 2 + b % 2) = h5 at *
  generalize rtH ^ (a % 2) = h3 at *
  generalize rtH ^ (b % 2) = h4 at *
  generalize 2 ^ (a / 2 + b / 2) = z6 at *
  generalize 2 ^ (a / 2) = z3 at *
  generalize 2 ^ (b / 2) = z4 at *
  have d2 := dv (w1 * w2 * (D2 : Rat))
  generalize w1 * w2 * (D2 : Rat) / (N2 : Rat) = y at *
  have key : y * q1 * (f1 * f2) * ((z6 * z5 * N2 * q2 : Nat) : Rat) = ((h5 * D2 * q3 : Nat) : Rat) := by
    rw [cmN, cmN, cmN z6, cS, cH, cmN, cmN h5, cR, ← pq, ← r1, ← r2]
    have e1 : y * q1 * (f1 * f2) * ((z3 : Rat) * (z4 : Rat) * ((z1 : Rat) * (z2 : Rat)) * (N2 : Rat) * (q2 : Rat)) = (y * (N2 : Rat)) * ((z3 : Rat) * (z4 : Rat)) * (q1 * (q2 : Rat)) * (f1 * (z1 : Rat) * (f2 * (z2 : Rat))) := by grind
    have e2 : (w1 * w2 * (D2 : Rat)) * ((z3 : Rat) * (z4 : Rat)) * (q1 * (q2 : Rat)) * (f1 * (z1 : Rat) * (f2 * (z2 : Rat))) = (w1 * (z3 : Rat)) * (w2 * (z4 : Rat)) * (f1 * (z1 : Rat) * (f2 * (z2 : Rat)) * (D2 : Rat) * (q1 * (q2 : Rat))) := by grind
    rw [e1, d2, e2, p1, p3, Rat.one_mul, Rat.one_mul]
  have vp : 0 < z6 * z5 * N2 * q2 := Nat.mul_pos (Nat.mul_pos (Nat.mul_pos n6 n5) hk) n0
  generalize z6 * z5 * N2 * q2 = v at *
  generalize h5 * D2 * q3 = u at *
  clear d2 dv cS cH cR pq r1 r2 p1 p3 N n0 n5 n6 hk hN2 hD2
  generalize y * q1 * (f1 * f2) = C at *
  refine ⟨?_, ?_, ?_⟩
  · rw [cmN, cmN, ← key, ← g2]
    grind
  · rw [cmN, cmN, c3, ← key, ← g2, ← g1]
    grind
  · exact_mod_cast Nat.mul_pos vp g3
/-- Both shares at a half, at least and at most. -/
def hfLo (a b : Nat) : Rat := fsG a b * (rtF a S2 * rtF b S2) * sR (1 / 2) a b 120
def hfHi (a b : Nat) : Rat := fsG a b * (rtF a S2 * rtF b S2) * (sR (1 / 2) a b 120 + 3 * rR (1 / 2) a b 120)
theorem hf_sum1 {a b : Nat} (ha : 1 ≤ a) (hb : 1 ≤ b) (ha2 : a ≤ 20) (hb2 : b ≤ 20) (h : hfOk a b = true) :
    73786976294838206463 ≤ 73786976294838206464 * (hfLo a b + hfLo b a) ∧ 73786976294838206464 * (hfHi a b + hfHi b a) ≤ 73786976294838206465 := by
  unfold hfLo hfHi
  have p1 := hf_pt (l := (hfN a b).1) (h := (hfN a b).2.1) (e := (hfN a b).2.2) ha hb ha2 hb2 rfl
  have p2 := hf_pt (l := (hfN b a).1) (h := (hfN b a).2.1) (e := (hfN b a).2.2) hb ha hb2 ha2 rfl
  unfold hfOk at h
  generalize hfN a b = X1 at *
  generalize hfN b a = X2 at *
  obtain ⟨l1, h1, e1⟩ := X1
  obtain ⟨l2, h2, e2⟩ := X2
  simp only [pin_eq, Bool.and_eq_true] at h
  obtain ⟨k1, k2⟩ := h
  have m1 := nat_le_rat (Nat.le_of_ble_eq_true k1)
  have m2 := nat_le_rat (Nat.le_of_ble_eq_true k2)
  obtain ⟨a1, a2, a3⟩ := p1
  obtain ⟨b1, b2, b3⟩ := p2
  simp only at a1 a2 a3 b1 b2 b3
  have E := Rat.mul_pos a3 b3
  rw [cmN, cmN, cmN, cnN, cmN l1, cmN l2, ← a1, ← b1] at m1
  rw [cmN, cmN, cmN, cnN, cmN h1, cmN h2, ← a2, ← b2] at m2
  rw [show ((2 ^ 66 - 1 : Nat) : Rat) = 73786976294838206463 from rfl, show ((2 ^ 66 : Nat) : Rat) = 73786976294838206464 from rfl] at m1
  rw [show ((2 ^ 66 + 1 : Nat) : Rat) = 73786976294838206465 from rfl, show ((2 ^ 66 : Nat) : Rat) = 73786976294838206464 from rfl] at m2
  clear a1 a2 b1 b2 k1 k2
  generalize fsG a b * (rtF a S2 * rtF b S2) * sR (1 / 2) a b 120 = u1 at *
  generalize fsG b a * (rtF b S2 * rtF a S2) * sR (1 / 2) b a 120 = u2 at *
  generalize fsG a b * (rtF a S2 * rtF b S2) * (sR (1 / 2) a b 120 + 3 * rR (1 / 2) a b 120) = u3 at *
  generalize fsG b a * (rtF b S2 * rtF a S2) * (sR (1 / 2) b a 120 + 3 * rR (1 / 2) b a 120) = u4 at *
  generalize (e1 : Rat) = x1 at *
  generalize (e2 : Rat) = x2 at *
  refine ⟨le_by E ?_, le_by E ?_⟩
  · have : 73786976294838206464 * (u1 + u2) * (x1 * x2) = 73786976294838206464 * (u1 * x1 * x2 + u2 * x2 * x1) := by grind
    rw [this]; exact m1
  · have : 73786976294838206464 * (u3 + u4) * (x1 * x2) = 73786976294838206464 * (u3 * x1 * x2 + u4 * x2 * x1) := by grind
    rw [this]; exact m2
theorem hf_sum {a b : Nat} (ha : 1 ≤ a) (hb : 1 ≤ b) (ha2 : a ≤ 20) (hb2 : b ≤ 20) :
    73786976294838206463 ≤ 73786976294838206464 * (hfLo a b + hfLo b a) ∧ 73786976294838206464 * (hfHi a b + hfHi b a) ≤ 73786976294838206465 := by
  rcases Nat.le_total a b with h | h
  · exact hf_sum1 ha hb ha2 hb2 (hf_all ha h hb2)
  · have := hf_sum1 hb ha hb2 ha2 (hf_all hb h ha2)
    rw [Rat.add_comm (hfLo a b), Rat.add_comm (hfHi a b)]
    exact this
/-- 1 but for a little. -/
def tau : Rat := 1 - 1 / 1267650600228229401496703205376
theorem tau_abs {s S u d D hf : Rat} (h1 : s ≤ S) (h2 : (S - s) * u ≤ 1) (hs : hf ≤ S) (hh : hf * 2 = 1) (hD : 0 < D) (e : d * D = 1) (hp : 2 * D ≤ u) : (1 - d) * S ≤ s := by
  have h3 := Rat.mul_le_mul_of_nonneg_left hp (show 0 ≤ S - s by grind)
  refine le_by hD ?_
  have : (1 - d) * S * D = D * S - S * (d * D) := by grind
  rw [this, e]
  have e2 : (S - s) * (2 * D) = 2 * (D * S) - 2 * (s * D) := by grind
  rw [e2] at h3
  grind
theorem tau_pt {s : Rat} (h1 : s ≤ S2) (h2 : (S2 - s) * p2 690 ≤ 1) : tau * S2 ≤ s := by
  have hs : (1 / 2 : Rat) ≤ S2 := sq_mon (by decide +kernel) S2_nn (Rat.le_trans (by decide +kernel) S2_sq.1)
  have hp : (2 * 1267650600228229401496703205376 : Rat) ≤ p2 690 := by
    obtain ⟨E, hE⟩ : ∃ E : Nat, E = 690 := ⟨_, rfl⟩
    rw [← hE]
    have : 2 ^ 101 ≤ 2 ^ E := Nat.pow_le_pow_right (by omega) (by omega)
    exact Rat.le_trans (show _ ≤ ((2 ^ 101 : Nat) : Rat) by decide +kernel) (nat_le_rat this)
  exact tau_abs h1 h2 hs (by decide +kernel) (by decide +kernel) (by decide +kernel) hp
theorem tau_ok : 0 ≤ tau ∧ tau ≤ 1 ∧ 73786976294838206462 ≤ tau * tau * 73786976294838206463 := by decide +kernel
theorem sR_nnH {x : Rat} {a b : Nat} (h : 0 ≤ x) (k : Nat) : 0 ≤ sR x a b k := Rat.le_trans (show (0 : Rat) ≤ 1 by decide) (sR_up (a := a) (b := b) h (Nat.zero_le k))
theorem half_row {a b p : Nat} (ha : 1 ≤ a) (ha2 : a ≤ 20) (hb : 1 ≤ b) (hb2 : b ≤ 20) (hp : p ≤ 60) :
    ∃ A B : Nat, Go.Ev.Fn CX 28 [.int .i64 (a : Int), .int .i64 (b : Int), rv (1 / 2), .int .i64 ((p + 300 : Nat) : Int)] (spanV A B) ∧ (lim A).length ≤ 100 ∧ (lim B).length ≤ 100 ∧
      (A : Rat) ≤ hfHi a b * p2 (p + 300) ∧ tau * tau * hfLo a b * p2 (p + 300) ≤ (B : Rat) := by
  have hz : szR (1 / 2) 1 := ⟨lim_len_lt (by decide +kernel), lim_len_lt (by decide +kernel)⟩
  have h0 : (0 : Rat) ≤ 1 / 2 := by decide +kernel
  have h1 : (1 / 2 : Rat) + 1 / 2 ≤ 1 := by decide +kernel
  obtain ⟨F1, F2, p1, p2', q1, q2, fi, g1, g2, g3, r1, r2, r3, r4, r5, r6, r7, r8, hF⟩ := incb_fst (w := p + 300) ha ha2 hb hb2 hz (by omega) (by omega) h0 (by decide +kernel) (by omega) (by omega)
  obtain ⟨A, B, K, hg⟩ := rowh_ends ha hb2 h0 h1 (by omega) (by omega) g1 g2 g3
  obtain ⟨k1, k2, k3⟩ := rowh_bd ha hb2 h0 h1 (by omega) g1 g2 g3 hg
  have f := incb_rowh ha ha2 hb hb2 hz (by omega) h0 h1 (by omega) (by omega) fi g1 g2 g3 hg
  have lB := lim_len_p2 k3 (by omega)
  have e2 : (1 : Rat) - 1 / 2 = 1 / 2 := by decide +kernel
  rw [e2] at r7 r8
  obtain ⟨s, s1, s2, s3, s4⟩ := half_pt r2 r1 r3 r4
  obtain ⟨s', s1', s2', s3', s4'⟩ := half_pt r6 r5 r7 r8
  have en := hF s s' s1 s2 s1' s2'
  have en1 : Enc (p + 300) F1 F2 (fstR a b (1 / 2) s s' * rR (1 / 2) a b 0) := by
    show Enc _ _ _ (_ * 1)
    rw [Rat.mul_one]; exact en
  have en2 : Enc (p + 300) F1 F2 (fstR a b (1 / 2) s s' * sR (1 / 2) a b 0) := en1
  obtain ⟨hbK, e3, e4, e5⟩ := row_enc (un_enc h0 (p + 300)) 2201 0 _ _ _ _ hg en1 en2
  have t1 := sR_top (a := a) (b := b) h0 h1 (k := 120) (m := K) (by omega)
  have t2 := sR_top (a := a) (b := b) h0 h1 (k := K) (m := 120) hbK
  obtain ⟨u1, u2, u3⟩ := tau_ok
  obtain ⟨a1, a2, a3⟩ := rtF_mon (t := tau) a S2_nn s3 (tau_pt s3 s4) u2
  obtain ⟨b1, b2, b3⟩ := rtF_mon (t := tau) b S2_nn s3' (tau_pt s3' s4') u2
  have G := fsG_nn ha hb ha2 hb2
  refine ⟨A, B, f, Nat.le_trans (lim_len_mono k1) (by omega), by omega, ?_, ?_⟩
  all_goals
    (try unfold hfHi)
    (try unfold hfLo)
    rw [fstR_is] at e3 e4 e5
    have P := p2_pos (p + 300)
    have c0 : 0 ≤ rtF a s := Rat.le_trans (Rat.mul_nonneg u1 a3) a1
    have c1 : 0 ≤ rtF b s' := Rat.le_trans (Rat.mul_nonneg u1 b3) b1
    have w0 := sR_nnH (a := a) (b := b) h0 K
    have w2 := rR_nn (a := a) (b := b) h0 120
    have w3 := sR_nnH (a := a) (b := b) h0 120
    have w4 := rR_nn (a := a) (b := b) h0 K
    generalize (1 / 2 : Rat) = hf at *
    generalize sR hf a b 120 = v1 at *
    generalize rR hf a b 120 = v2 at *
    generalize sR hf a b K = v3 at *
    generalize rR hf a b K = v4 at *
    generalize rtF a s = x1 at *
    generalize rtF b s' = x2 at *
    generalize rtF a S2 = y1 at *
    generalize rtF b S2 = y2 at *
    generalize fsG a b = c at *
    generalize p2 (p + 300) = W at *
    clear fi g1 g2 g3 hF hg f en en1 en2 k3 lB
  · have m1 : x1 * x2 ≤ y1 * y2 := Rat.le_trans (Rat.mul_le_mul_of_nonneg_right a2 c1) (Rat.mul_le_mul_of_nonneg_left b2 a3)
    have m2 := Rat.mul_le_mul_of_nonneg_left m1 G
    have m3 : c * (x1 * x2) * v3 ≤ c * (y1 * y2) * (v1 + 3 * v2) := Rat.le_trans (Rat.mul_le_mul_of_nonneg_right m2 w0) (Rat.mul_le_mul_of_nonneg_left t1 (Rat.mul_nonneg G (Rat.mul_nonneg a3 b3)))
    exact Rat.le_trans e3 (Rat.mul_le_mul_of_nonneg_right m3 (Rat.le_of_lt P))
  · have m1 : tau * y1 * (tau * y2) ≤ x1 * x2 := Rat.le_trans (Rat.mul_le_mul_of_nonneg_right a1 (Rat.mul_nonneg u1 b3)) (Rat.mul_le_mul_of_nonneg_left b1 c0)
    have m2 := Rat.mul_le_mul_of_nonneg_left m1 G
    have m3 : c * (tau * y1 * (tau * y2)) * v1 ≤ c * (x1 * x2) * (v3 + 3 * v4) := Rat.le_trans (Rat.mul_le_mul_of_nonneg_right m2 w3) (Rat.mul_le_mul_of_nonneg_left t2 (Rat.mul_nonneg G (Rat.mul_nonneg c0 c1)))
    have m4 := Rat.mul_le_mul_of_nonneg_right m3 (Rat.le_of_lt P)
    have e6 : tau * tau * (c * (y1 * y2) * v1) * W = c * (tau * y1 * (tau * y2)) * v1 * W := by grind
    rw [e6]
    refine Rat.le_trans m4 ?_
    have e7 : c * (x1 * x2) * (v3 + 3 * v4) * W = c * (x1 * x2) * v3 * W + 3 * (c * (x1 * x2) * v4 * W) := by grind
    rw [e7]
    grind
theorem told_abs {A1 A2 B1 B2 M E : Nat} (hE : 0 < E) (hM : M ≤ 2 ^ 62) (h1 : (A1 + A2) * 73786976294838206464 ≤ 73786976294838206465 * (M * E)) (h2 : 73786976294838206462 * (M * E) ≤ (B1 + B2) * 73786976294838206464) :
    A1 / E + A2 / E ≤ M ∧ M ≤ B1 / E + 1 + (B2 / E + 1) := by
  have d1 := Nat.div_mul_le_self A1 E
  have d2 := Nat.div_mul_le_self A2 E
  have d3 := Nat.lt_mul_div_succ B1 hE
  have d4 := Nat.lt_mul_div_succ B2 hE
  generalize A1 / E = x1 at *
  generalize A2 / E = x2 at *
  generalize B1 / E = y1 at *
  generalize B2 / E = y2 at *
  constructor
  · have k : (x1 + x2) * 73786976294838206464 * E ≤ 73786976294838206465 * M * E := by
      rw [Nat.mul_assoc 73786976294838206465]
      refine Nat.le_trans ?_ h1
      have : (x1 + x2) * 73786976294838206464 * E = (x1 * E + x2 * E) * 73786976294838206464 := by rw [← Nat.add_mul, Nat.mul_assoc, Nat.mul_comm _ E, ← Nat.mul_assoc]
      rw [this]
      exact Nat.mul_le_mul_right _ (Nat.add_le_add d1 d2)
    have := Nat.le_of_mul_le_mul_right k hE
    omega
  · have k : 73786976294838206462 * M * E ≤ (y1 + 1 + (y2 + 1)) * 73786976294838206464 * E := by
      rw [Nat.mul_assoc 73786976294838206462]
      refine Nat.le_trans h2 ?_
      have : (y1 + 1 + (y2 + 1)) * 73786976294838206464 * E = (E * (y1 + 1) + E * (y2 + 1)) * 73786976294838206464 := by rw [← Nat.mul_add, Nat.mul_assoc, Nat.mul_comm _ E, Nat.mul_comm E, ← Nat.mul_assoc, Nat.mul_comm E, Nat.mul_assoc, Nat.mul_assoc]; congr 1; rw [Nat.mul_comm]
      rw [this]
      exact Nat.mul_le_mul_right _ (Nat.add_le_add (Nat.le_of_lt d3) (Nat.le_of_lt d4))
    have := Nat.le_of_mul_le_mul_right k hE
    omega
/-- Balls that are told as sums within a little of 1 hold 1 together. -/
theorem told_sum {A1 A2 B1 B2 p : Nat} (hp : p ≤ 60) (h1 : (A1 + A2) * 73786976294838206464 ≤ 73786976294838206465 * 2 ^ (p + 300)) (h2 : 73786976294838206462 * 2 ^ (p + 300) ≤ (B1 + B2) * 73786976294838206464) :
    toldLo A1 p + toldLo A2 p ≤ 1 ∧ 1 ≤ toldHi B1 p + toldHi B2 p := by
  unfold toldLo toldHi
  have P := p2_pos (p + 2)
  obtain ⟨F, hF⟩ : ∃ F : Nat, F = p + 300 - (p + 2) := ⟨_, rfl⟩
  rw [← hF]
  have hw : 2 ^ (p + 300) = 2 ^ (p + 2) * 2 ^ F := by rw [← Nat.pow_add]; congr 1; omega
  rw [hw] at h1 h2
  obtain ⟨k1, k2⟩ := told_abs (Nat.pow_pos (by omega)) (Nat.pow_le_pow_right (by omega) (by omega)) h1 h2
  have m1 := mk_p2n (A1 / 2 ^ F) (p + 2)
  have m2 := mk_p2n (A2 / 2 ^ F) (p + 2)
  have m3 := mk_p2n (B1 / 2 ^ F + 1) (p + 2)
  have m4 := mk_p2n (B2 / 2 ^ F + 1) (p + 2)
  have n1 := nat_le_rat k1
  have n2 := nat_le_rat k2
  rw [cnN, ← m1, ← m2] at n1
  rw [cnN (B1 / 2 ^ F + 1), ← m3, ← m4] at n2
  change _ ≤ p2 (p + 2) at n1
  change p2 (p + 2) ≤ _ at n2
  refine ⟨le_by P ?_, le_by P ?_⟩
  · rw [Rat.one_mul, Rat.add_mul]; exact n1
  · rw [Rat.one_mul, Rat.add_mul]; exact n2
section
variable {x : Rat} {a b p : Nat} {s : Bool} {n d : List Nat}
theorem sides_half (hv : RatA (ratV s n d) x 3) (hn : n.length ≤ 3) (hd : d.length ≤ 3) (ha : 1 ≤ a) (ha2 : a ≤ 20) (hb : 1 ≤ b) (hb2 : b ≤ 20) (hp : p ≤ 60) (h : x = 1 / 2) :
    Go.Ev.Fn CX 4 [.int .i64 (a : Int), .int .i64 (b : Int), ratV s n d, .int .i64 (p : Int)] (.bool true) := by
  subst h
  have hz : szR (1 / 2) 1 := ⟨lim_len_lt (by decide +kernel), lim_len_lt (by decide +kernel)⟩
  have e : (1 : Rat) - 1 / 2 = 1 / 2 := by decide +kernel
  obtain ⟨A1, B1, f1, l1, l2, a1, b1⟩ := half_row (p := p) ha ha2 hb hb2 hp
  obtain ⟨A2, B2, f2, l3, l4, a2, b2⟩ := half_row (p := p) hb hb2 ha ha2 hp
  have i1 := incb_I_lo hv (by omega) (by omega) ha ha2 hb hb2 (by omega) (by decide +kernel) (by decide +kernel) f1 ⟨l1, l2⟩
  have i2 := incb_I_lo (v := rv (1 / 2)) (RatA_rv hz) (by omega) (by omega) hb hb2 ha ha2 (by omega) (by decide +kernel) (by decide +kernel) f2 ⟨l3, l4⟩
  obtain ⟨z1, z2⟩ := told_sz (p := p) (by omega) l1 l2
  obtain ⟨z3, z4⟩ := told_sz (p := p) (by omega) l3 l4
  obtain ⟨s1, s2⟩ := hf_sum ha hb ha2 hb2
  obtain ⟨u1, u2, u3⟩ := tau_ok
  have W := p2_pos (p + 300)
  have t := told_sum (A1 := A1) (A2 := A2) (B1 := B1) (B2 := B2) hp (by
    have k : (((A1 + A2) * 73786976294838206464 : Nat) : Rat) ≤ ((73786976294838206465 * 2 ^ (p + 300) : Nat) : Rat) := by
      rw [cmN, cmN, cnN]
      show ((A1 : Rat) + (A2 : Rat)) * 73786976294838206464 ≤ 73786976294838206465 * p2 (p + 300)
      have m := Rat.mul_le_mul_of_nonneg_right s2 (show 0 ≤ p2 (p + 300) by grind)
      clear f1 f2 i1 i2
      generalize p2 (p + 300) = w at *
      generalize hfHi a b = q1 at *
      generalize hfHi b a = q2 at *
      grind
    exact_mod_cast k) (by
    have k : ((73786976294838206462 * 2 ^ (p + 300) : Nat) : Rat) ≤ (((B1 + B2) * 73786976294838206464 : Nat) : Rat) := by
      rw [cmN, cmN, cnN]
      show 73786976294838206462 * p2 (p + 300) ≤ ((B1 : Rat) + (B2 : Rat)) * 73786976294838206464
      have m1 := Rat.mul_le_mul_of_nonneg_left s1 (Rat.mul_nonneg u1 u1)
      have m2 := Rat.mul_le_mul_of_nonneg_right (Rat.le_trans u3 m1) (show 0 ≤ p2 (p + 300) by grind)
      clear f1 f2 i1 i2
      generalize p2 (p + 300) = w at *
      generalize hfLo a b = q1 at *
      generalize hfLo b a = q2 at *
      generalize tau = t at *
      have e3 : t * t * (73786976294838206464 * (q1 + q2)) * w = (t * t * q1 * w + t * t * q2 * w) * 73786976294838206464 := by grind
      rw [e3] at m2
      grind
    exact_mod_cast k)
  have i2' : Go.Ev.Fn CX 8 [.int .i64 (b : Int), .int .i64 (a : Int), rv (1 - 1 / 2), .int .i64 (p : Int)] (.tup [ballR (toldLo A2 p) (toldHi B2 p), .bool true]) := by rw [e]; exact i2
  exact sides_in known12 hv hn hd (by omega) (by omega) (by omega) i1 i2' (szR_mono z1 (by omega)) (szR_mono z2 (by omega)) (szR_mono z3 (by omega)) (szR_mono z4 (by omega)) t.1 t.2
end
theorem wf_int64k {n : Int} (h : (Lit.int .i64 n).wf = true) : -9223372036854775808 ≤ n ∧ n < 9223372036854775808 := by
  have h' : decide (IntKind.i64.min ≤ n ∧ n ≤ IntKind.i64.max) = true := by simpa [Lit.wf] using h
  have := of_decide_eq_true h'
  simp only [show IntKind.i64.min = -9223372036854775808 from rfl, show IntKind.i64.max = 9223372036854775807 from rfl] at this
  omega
set_option maxRecDepth 100000 in
theorem sides_law (a : Int) (w0 : (Lit.int .i64 a).wf = true) (b : Int) (w1 : (Lit.int .i64 b).wf = true) (ss2 : List SV) (sh2 : ShpT Tryz.prog 6 24 ss2) (p : Int) (w3 : (Lit.int .i64 p).wf = true) :
    Go.Ev.Fn CX 4 [.int .i64 a, .int .i64 b, .agg ss2, .int .i64 p] (.bool true) := by
  obtain ⟨s, nm, dm, rfl, hn, hd, ln, ld⟩ := shp_rat (n := 3) sh2
  have r0 := wf_int64k w0
  have r1 := wf_int64k w1
  have r3 := wf_int64k w3
  have m1 := Nat.le_trans ln (show maxLen ≤ 9223372036854775807 by decide)
  have m2 := Nat.le_trans ld (show maxLen ≤ 9223372036854775807 by decide)
  by_cases c : nm.length ≤ 3 ∧ dm.length ≤ 3 ∧ 0 ≤ p ∧ p ≤ 60 ∧ a ≤ 20 ∧ b ≤ 20
  · obtain ⟨c1, c2, c3, c4, c5, c6⟩ := c
    obtain ⟨x, hx⟩ : ∃ x : Rat, RatA (ratV s nm dm) x 3 := ⟨_, s, nm, dm, rfl, hn, hd, c1, c2, rfl⟩
    by_cases bad : a < 1 ∨ b < 1 ∨ x < 0 ∨ 1 < x
    · exact sides_bad known12 hx c1 c2 (by omega) (by omega) ⟨c3, c4⟩ bad
    · have g1 : 0 ≤ x := Rat.not_lt.1 fun g => bad (.inr (.inr (.inl g)))
      have g2 : x ≤ 1 := Rat.not_lt.1 fun g => bad (.inr (.inr (.inr g)))
      obtain ⟨P, rfl⟩ : ∃ P : Nat, p = (P : Int) := ⟨p.toNat, by omega⟩
      obtain ⟨A, rfl⟩ : ∃ K : Nat, a = (K : Int) := ⟨a.toNat, by omega⟩
      obtain ⟨B, rfl⟩ : ∃ N : Nat, b = (N : Int) := ⟨b.toNat, by omega⟩
      have a1 : 1 ≤ A := by omega
      have b1 : 1 ≤ B := by omega
      by_cases e0 : x = 0 ∨ x = 1
      · exact sides_ends known12 hx c1 c2 a1 (by omega) b1 (by omega) (by omega) e0
      · have n0 : 0 < x := by clear bad; grind
        have n1 : x < 1 := by clear bad; grind
        rcases Rat.le_total (a := x + x) (b := 1) with g | g
        · by_cases e : x + x = 1
          · have hh : (1 / 2 : Rat) * 2 = 1 := by decide +kernel
            exact sides_half hx c1 c2 a1 (by omega) b1 (by omega) (by omega) (by clear bad; generalize (1 / 2 : Rat) = hf at *; grind)
          · exact sides_low known12 hx c1 c2 a1 (by omega) b1 (by omega) (by omega) n0 (by clear bad; grind)
        · by_cases e : x + x = 1
          · have hh : (1 / 2 : Rat) * 2 = 1 := by decide +kernel
            exact sides_half hx c1 c2 a1 (by omega) b1 (by omega) (by omega) (by clear bad; generalize (1 / 2 : Rat) = hf at *; grind)
          · exact sides_high known12 hx c1 c2 a1 (by omega) b1 (by omega) (by omega) (by clear bad; grind) n1
  · exact sides_out m1 m2 r0 r1 r3 (by omega)
end Go.Proofs.YtigiblhmhmgagaaGreat
