/- Part 10 of the proof: the evaluator, contracts of functions and their plain laws (joined by program). No condition. -/
import Derived.Test.YthbjgdmcnonofaaGreatPart9
/- vernierref9: Iv, Ball, in the evaluator. -/
namespace Go.Proofs.YthbjgdmcnonofaaGreat
set_option linter.unusedSimpArgs false
set_option linter.unusedVariables false
set_option maxRecDepth 8000
open Go.Ev
theorem zc (z : Int) (d : Nat) : ((z * (d : Int) : Int) : Rat) = (z : Rat) * (d : Rat) := Rat.intCast_mul z d
theorem zfloor (a : Int) {d : Nat} (hd : 0 < d) : ((a / (d : Int) : Int) : Rat) * (d : Rat) ≤ (a : Rat) := by
  rw [← zc]
  exact Rat.intCast_le_intCast.2 (Int.ediv_mul_le a (by omega))
theorem zceil (a : Int) {d : Nat} (hd : 0 < d) : (a : Rat) ≤ ((cdZ a d : Int) : Rat) * (d : Rat) := by
  rw [← zc]
  refine Rat.intCast_le_intCast.2 ?_
  unfold cdZ
  have := Int.ediv_mul_le (-a) (show (d : Int) ≠ 0 by omega)
  rw [Int.neg_mul]
  omega
theorem mnZ_le (m x : Int) : mnZ m x ≤ m ∧ mnZ m x ≤ x := by unfold mnZ; split <;> omega
theorem mxZ_ge (m x : Int) : m ≤ mxZ m x ∧ x ≤ mxZ m x := by unfold mxZ; split <;> omega
theorem loQ_le (a b c d : Int) : loQ a b c d ≤ a * c ∧ loQ a b c d ≤ a * d ∧ loQ a b c d ≤ b * c ∧ loQ a b c d ≤ b * d := by
  have e : loQ a b c d = mnZ (mnZ (mnZ (a * c) (a * d)) (b * c)) (b * d) := rfl
  have h1 := mnZ_le (a * c) (a * d)
  have h2 := mnZ_le (mnZ (a * c) (a * d)) (b * c)
  have h3 := mnZ_le (mnZ (mnZ (a * c) (a * d)) (b * c)) (b * d)
  rw [e]
  omega
theorem hiQ_ge (a b c d : Int) : a * c ≤ hiQ a b c d ∧ a * d ≤ hiQ a b c d ∧ b * c ≤ hiQ a b c d ∧ b * d ≤ hiQ a b c d := by
  have e : hiQ a b c d = mxZ (mxZ (mxZ (a * c) (a * d)) (b * c)) (b * d) := rfl
  have h1 := mxZ_ge (a * c) (a * d)
  have h2 := mxZ_ge (mxZ (a * c) (a * d)) (b * c)
  have h3 := mxZ_ge (mxZ (mxZ (a * c) (a * d)) (b * c)) (b * d)
  rw [e]
  omega
theorem mul_between {a b x y : Rat} (h1 : a ≤ x) (h2 : x ≤ b) : (a * y ≤ x * y ∧ x * y ≤ b * y) ∨ (b * y ≤ x * y ∧ x * y ≤ a * y) := by
  rcases Rat.le_total (a := 0) (b := y) with g | g
  · exact .inl ⟨Rat.mul_le_mul_of_nonneg_right h1 g, Rat.mul_le_mul_of_nonneg_right h2 g⟩
  · have f : ∀ {u v : Rat}, u ≤ v → v * y ≤ u * y := by
      intro u v h
      have := Rat.mul_le_mul_of_nonneg_right h (show 0 ≤ -y by grind)
      grind
    exact .inr ⟨f h2, f h1⟩
/-- A product lies between the least and the greatest of the ends' products. -/
theorem corner {a b c d : Int} {x y : Rat} (h1 : (a : Rat) ≤ x) (h2 : x ≤ (b : Rat)) (h3 : (c : Rat) ≤ y) (h4 : y ≤ (d : Rat)) : ((loQ a b c d : Int) : Rat) ≤ x * y ∧ x * y ≤ ((hiQ a b c d : Int) : Rat) := by
  obtain ⟨l1, l2, l3, l4⟩ := loQ_le a b c d
  obtain ⟨k1, k2, k3, k4⟩ := hiQ_ge a b c d
  replace l1 := Rat.intCast_le_intCast.2 l1
  replace l2 := Rat.intCast_le_intCast.2 l2
  replace l3 := Rat.intCast_le_intCast.2 l3
  replace l4 := Rat.intCast_le_intCast.2 l4
  replace k1 := Rat.intCast_le_intCast.2 k1
  replace k2 := Rat.intCast_le_intCast.2 k2
  replace k3 := Rat.intCast_le_intCast.2 k3
  replace k4 := Rat.intCast_le_intCast.2 k4
  rw [Rat.intCast_mul] at l1 l2 l3 l4 k1 k2 k3 k4
  have A := mul_between (y := (a : Rat)) h3 h4
  have B := mul_between (y := (b : Rat)) h3 h4
  have X := mul_between (y := y) h1 h2
  generalize ((loQ a b c d : Int) : Rat) = lo at *
  generalize ((hiQ a b c d : Int) : Rat) = hi at *
  generalize (a : Rat) = a' at *
  generalize (b : Rat) = b' at *
  generalize (c : Rat) = c' at *
  generalize (d : Rat) = d' at *
  have ya : lo ≤ y * a' ∧ y * a' ≤ hi := by grind
  have yb : lo ≤ y * b' ∧ y * b' ≤ hi := by grind
  constructor <;> grind
theorem cdv_self {a b : Nat} (hb : 0 < b) : cdv a b ≤ a := cdv_le hb (Nat.le_mul_of_pos_right _ hb)
theorem piIv_bd {w lo hi : Nat} (hw : w ≤ 800) (h : piIv w = some (lo, hi)) : (lim lo).length ≤ 52 ∧ (lim hi).length ≤ 52 := by
  unfold piIv at h
  split at h
  · rename_i a1 a2 b1 b2 h1 h2
    split at h
    · obtain ⟨rfl, rfl⟩ : (a1 * 16 - b2 * 4) / 2 ^ 10 = lo ∧ cdv (a2 * 16 - b1 * 4) (2 ^ 10) = hi := by simpa using h
      obtain ⟨g1, g2⟩ := smF_bd (by omega) (by omega) h1
      have l16 : (lim 16).length ≤ 1 := lim_len_one (by decide)
      have e1 := lim_len_mul (a := a1) (b := 16)
      have e2 := lim_len_mul (a := a2) (b := 16)
      have e3 := lim_len_mono (Nat.le_trans (Nat.div_le_self (a1 * 16 - b2 * 4) (2 ^ 10)) (Nat.sub_le _ _))
      have e4 := lim_len_mono (Nat.le_trans (cdv_self (a := a2 * 16 - b1 * 4) (b := 2 ^ 10) (by omega)) (Nat.sub_le _ _))
      omega
    · cases h
  · cases h
/-- Pi between two naturals, in units of W bits: and the constant's square. -/
theorem iv_pi {W : Nat} (h1 : 190 ≤ W) (h2 : W < 311) : ∃ lo hi : Nat, piIv W = some (lo, hi) ∧ (lo : Rat) ≤ SQ * SQ * p2 W ∧ SQ * SQ * p2 W ≤ (hi : Rat) := by
  have h := allFrom_at iv_ok W h1 (by omega)
  unfold ivOk at h
  split at h
  · rename_i lo hi hpi
    rw [Bool.and_eq_true] at h
    exact ⟨lo, hi, hpi, sq_lo (by omega) (Nat.le_of_ble_eq_true h.1), sq_hi (by omega) (Nat.le_of_ble_eq_true h.2)⟩
  · cases h
theorem rt_enc {lo hi W : Nat} (h1 : (lo : Rat) ≤ SQ * SQ * p2 W) (h2 : SQ * SQ * p2 W ≤ (hi : Rat)) : ((rtN (lo * 2 ^ W) : Nat) : Rat) ≤ SQ * p2 W ∧ SQ * p2 W ≤ ((rtN (hi * 2 ^ W) + 1 : Nat) : Rat) := by
  have P := p2_pos W
  have e : (SQ * p2 W) * (SQ * p2 W) = SQ * SQ * p2 W * p2 W := by grind
  have s0 : 0 ≤ SQ * p2 W := Rat.mul_nonneg SQ_nn (by grind)
  have g1 := n_le (rtN_le (lo * 2 ^ W))
  have g2 := n_le (Nat.le_of_lt (lt_rtN (hi * 2 ^ W)))
  rw [n_mul, n_mul] at g1 g2
  refine ⟨sq_mono (n_nn _) s0 ?_, sq_mono s0 (n_nn _) ?_⟩
  · rw [e]
    exact Rat.le_trans g1 (Rat.mul_le_mul_of_nonneg_right h1 (by grind))
  · rw [e]
    exact Rat.le_trans (Rat.mul_le_mul_of_nonneg_right h2 (by grind)) g2
theorem num_enc (q : Rat) (W : Nat) : ((q.num * ((2 ^ W : Nat) : Int) / (q.den : Int) : Int) : Rat) ≤ q * p2 W ∧ q * p2 W ≤ ((cdZ (q.num * ((2 ^ W : Nat) : Int)) q.den : Int) : Rat) := by
  have D : (0 : Rat) < (q.den : Rat) := by exact_mod_cast q.den_pos
  have f := zfloor (q.num * ((2 ^ W : Nat) : Int)) q.den_pos
  have c := zceil (q.num * ((2 ^ W : Nat) : Int)) q.den_pos
  have h : mkRat q.num q.den * (q.den : Rat) = (q.num : Rat) := by
    rw [Rat.mkRat_eq_div]
    exact Rat.div_mul_cancel (by grind)
  rw [Rat.mkRat_self] at h
  rw [zc, ← h] at f c
  refine ⟨le_by D ?_, le_by D ?_⟩
  · have : q * p2 W * (q.den : Rat) = q * (q.den : Rat) * p2 W := by grind
    rw [this]; exact f
  · have : q * p2 W * (q.den : Rat) = q * (q.den : Rat) * p2 W := by grind
    rw [this]; exact c
theorem back_enc {q T : Rat} {w : Nat} {A B : Int} (h1 : (A : Rat) ≤ (q * p2 (w + 150)) * (T * p2 (w + 150))) (h2 : (q * p2 (w + 150)) * (T * p2 (w + 150)) ≤ (B : Rat)) :
    ((A / ((2 ^ (w + 150) : Nat) : Int) / ((2 ^ 150 : Nat) : Int) : Int) : Rat) ≤ q * T * p2 w ∧ q * T * p2 w ≤ ((cdZ (cdZ B (2 ^ (w + 150))) (2 ^ 150) : Int) : Rat) := by
  have P1 := p2_pos (w + 150)
  have P2 := p2_pos 150
  have f1 := zfloor A (d := 2 ^ (w + 150)) (Nat.pow_pos (by omega))
  have f2 := zfloor (A / ((2 ^ (w + 150) : Nat) : Int)) (d := 2 ^ 150) (Nat.pow_pos (by omega))
  have c1 := zceil B (d := 2 ^ (w + 150)) (Nat.pow_pos (by omega))
  have c2 := zceil (cdZ B (2 ^ (w + 150))) (d := 2 ^ 150) (Nat.pow_pos (by omega))
  have e := p2_add w 150
  change _ * p2 (w + 150) ≤ _ at f1
  change _ ≤ _ * p2 (w + 150) at c1
  change _ * p2 150 ≤ _ at f2
  change _ ≤ _ * p2 150 at c2
  generalize ((A / ((2 ^ (w + 150) : Nat) : Int) / ((2 ^ 150 : Nat) : Int) : Int) : Rat) = x at *
  generalize ((A / ((2 ^ (w + 150) : Nat) : Int) : Int) : Rat) = x1 at *
  generalize ((cdZ (cdZ B (2 ^ (w + 150))) (2 ^ 150) : Int) : Rat) = y at *
  generalize ((cdZ B (2 ^ (w + 150)) : Int) : Rat) = y1 at *
  have hx1 : x1 ≤ q * T * p2 (w + 150) := le_by P1 (by
    have : q * T * p2 (w + 150) * p2 (w + 150) = q * p2 (w + 150) * (T * p2 (w + 150)) := by grind
    rw [this]; exact Rat.le_trans f1 h1)
  have hy1 : q * T * p2 (w + 150) ≤ y1 := le_by P1 (by
    have : q * T * p2 (w + 150) * p2 (w + 150) = q * p2 (w + 150) * (T * p2 (w + 150)) := by grind
    rw [this]; exact Rat.le_trans h2 c1)
  refine ⟨le_by P2 ?_, le_by P2 ?_⟩
  · have : q * T * p2 w * p2 150 = q * T * p2 (w + 150) := by rw [e]; grind
    rw [this]; exact Rat.le_trans f2 hx1
  · have : q * T * p2 w * p2 150 = q * T * p2 (w + 150) := by rw [e]; grind
    rw [this]; exact Rat.le_trans hy1 c2
theorem div_len {a : Int} {d L : Nat} (hd : d ≠ 0) (h : (lim a.natAbs).length ≤ L) : (lim (a / (d : Int)).natAbs).length ≤ L ∧ (lim (cdZ a d).natAbs).length ≤ L :=
  ⟨Nat.le_trans (lim_len_mono (abs_div_le a hd)) h, Nat.le_trans (lim_len_mono (cd_abs_le a hd)) h⟩
theorem loQ_len {a b c d : Int} {L M : Nat} (ha : (lim a.natAbs).length ≤ L) (hb : (lim b.natAbs).length ≤ L) (hc : (lim c.natAbs).length ≤ M) (hd : (lim d.natAbs).length ≤ M) : (lim (loQ a b c d).natAbs).length ≤ L + M ∧ (lim (hiQ a b c d).natAbs).length ≤ L + M := by
  have m : ∀ {x y : Int}, (lim x.natAbs).length ≤ L → (lim y.natAbs).length ≤ M → (lim (x * y).natAbs).length ≤ L + M := by
    intro x y h1 h2
    rw [Int.natAbs_mul]
    have := lim_len_mul (a := x.natAbs) (b := y.natAbs)
    omega
  have h1 := loP_is (a * c) (a * d) (b * c) (b * d) 4
  have h2 := hiP_is (a * c) (a * d) (b * c) (b * d) 4
  constructor
  · rcases h1 with h | h | h | h <;> (unfold loQ; rw [h]; exact m (by assumption) (by assumption))
  · rcases h2 with h | h | h | h <;> (unfold hiQ; rw [h]; exact m (by assumption) (by assumption))
section
variable {v : SV} {q : Rat} {w : Nat}
theorem ref9_Iv (hv : RatA v q 3) (h1 : 40 ≤ w) (h2 : w ≤ 160) (k : Nat) (hk : k = 1 ∨ k = 2) : ∃ A B : Int, Go.Ev.Fn CX 45 [v, .int .i64 (k : Int), .int .i64 (w : Int)] (ivV A B) ∧ (A : Rat) ≤ q * (if k = 1 then SQ else SQ * SQ) * p2 w ∧ q * (if k = 1 then SQ else SQ * SQ) * p2 w ≤ (B : Rat) ∧ (lim A.natAbs).length ≤ 200 ∧ (lim B.natAbs).length ≤ 200 := by
  have zq := szR_of hv (by omega)
  have nm := ref4_Num hv (w := w + 150) (by omega) (by omega) (by omega)
  obtain ⟨n1, n2⟩ := num_enc q (w + 150)
  obtain ⟨lo, hi, hpi, g1, g2⟩ := iv_pi (W := w + 150) (by omega) (by omega)
  have pi := ref8_PiIv (w := w + 150) (by omega) hpi
  obtain ⟨s1, s2⟩ := piIv_bd (by omega) hpi
  have ln : (lim (q.num * ((2 ^ (w + 150) : Nat) : Int)).natAbs).length ≤ 20 := by
    rw [mul_p2_abs]
    have := lim_len_shl (a := q.num.natAbs) (n := w + 150)
    have := zq.1
    omega
  obtain ⟨l1, l2⟩ := div_len q.den_nz ln
  have hP : 2 ^ (w + 150) ≠ 0 := Nat.ne_of_gt (Nat.pow_pos (by omega))
  have hP2 : 2 ^ 150 ≠ 0 := Nat.ne_of_gt (Nat.pow_pos (by omega))
  generalize q.num * ((2 ^ (w + 150) : Nat) : Int) / (q.den : Int) = X1 at *
  generalize cdZ (q.num * ((2 ^ (w + 150) : Nat) : Int)) q.den = X2 at *
  have ew : ((w + 150 : Nat) : Int) = (w : Int) + 150 := rfl
  rcases hk with rfl | rfl
  · rw [if_pos rfl]
    obtain ⟨r1, r2⟩ := rt_enc g1 g2
    have sq := ref4_Sqrt (a := lo) (b := hi) (w := w + 150) (by omega) (by omega) (by omega)
    rw [ivN_eq] at sq
    have t1 := lim_len_mono (rtN_self (lo * 2 ^ (w + 150)))
    have t2 := lim_len_mono (rtN_self (hi * 2 ^ (w + 150)))
    have t3 := lim_len_shl (a := lo) (n := w + 150)
    have t4 := lim_len_shl (a := hi) (n := w + 150)
    have t5 := lim_len_add (a := rtN (hi * 2 ^ (w + 150))) (b := 1) (L := 80) (by omega) (by have := lim_len1; omega)
    generalize rtN (lo * 2 ^ (w + 150)) = Y1 at *
    generalize rtN (hi * 2 ^ (w + 150)) + 1 = Y2 at *
    have ly1 : (lim (Y1 : Int).natAbs).length ≤ 81 := by rw [Int.natAbs_natCast]; omega
    have ly2 : (lim (Y2 : Int).natAbs).length ≤ 81 := by rw [Int.natAbs_natCast]; omega
    have pr := ref4_Prod (a := X1) (b := X2) (c := (Y1 : Int)) (d := (Y2 : Int)) (w := w + 150) (by omega) (by omega) (by omega) (by omega) (by omega) (by omega)
    rw [ivN_eq] at pr
    obtain ⟨c1, c2⟩ := corner (c := (Y1 : Int)) (d := (Y2 : Int)) n1 n2 r1 r2
    obtain ⟨q1, q2⟩ := loQ_len l1 l2 ly1 ly2
    obtain ⟨b1, b2⟩ := back_enc c1 c2
    generalize loQ X1 X2 (Y1 : Int) (Y2 : Int) = L at *
    generalize hiQ X1 X2 (Y1 : Int) (Y2 : Int) = H at *
    obtain ⟨u1, -⟩ := div_len hP q1
    obtain ⟨-, u2⟩ := div_len hP q2
    obtain ⟨v1, -⟩ := div_len hP2 u1
    obtain ⟨-, v2⟩ := div_len hP2 u2
    have bk := ref4_Back (a := L / ((2 ^ (w + 150) : Nat) : Int)) (b := cdZ H (2 ^ (w + 150))) (by omega) (by omega) 150 (by omega) (by omega)
    refine ⟨_, _, ?_, b1, b2, by omega, by omega⟩
    clear b1 b2 c1 c2 n1 n2 g1 g2 r1 r2 hpi
    generalize L / ((2 ^ (w + 150) : Nat) : Int) / ((2 ^ 150 : Nat) : Int) = A at *
    generalize L / ((2 ^ (w + 150) : Nat) : Int) = A1 at *
    generalize cdZ (cdZ H (2 ^ (w + 150))) (2 ^ 150) = B at *
    generalize cdZ H (2 ^ (w + 150)) = B1 at *
    rw [ew] at nm pi sq pr
    obtain ⟨s, n, d, rfl, -⟩ := hv
    refine Go.Ev.Fn.intro (fn := Tryz.f45) (body := (Tryz.f45).body.get!) (by kernel_rfl) (by kernel_rfl) (by kernel_rfl) (fun _ => rfl) (Nat.le_of_ble_eq_true (by kernel_rfl)) ?_; unfold Tryz.f45; simp only [Option.get!_some]
    repeat (first | (simp only [go_sem, Nat.reduceEqDiff, Nat.reduceAdd, Nat.reduceSub, Nat.reduceMul, Nat.reduceLeDiff, Nat.reduceLT, reduceIte, reduceCtorEq, Nat.succ_ne_zero, elemsC, Int.reduceToNat, Nat.reducePow]) | (simp (disch := (first | omega | (simp only [AL, List.length_map]; omega))) only [AR, AL, ifT, ifF, take_all, List.length_cons, List.length_nil, Int.reduceToNat, Int.reducePow, Nat.reducePow]) | (refine wk_intro (by kernel_rfl) ?_) | (refine vp_draw (id := 6) (l := []) (by kernel_rfl) ?_) | (refine vf_of (by first | exact nm | exact pi | exact sq | exact pr | exact bk) ?_))
  · rw [if_neg (by omega)]
    have ly1 : (lim (lo : Int).natAbs).length ≤ 81 := by rw [Int.natAbs_natCast]; omega
    have ly2 : (lim (hi : Int).natAbs).length ≤ 81 := by rw [Int.natAbs_natCast]; omega
    have pr := ref4_Prod (a := X1) (b := X2) (c := (lo : Int)) (d := (hi : Int)) (w := w + 150) (by omega) (by omega) (by omega) (by omega) (by omega) (by omega)
    obtain ⟨c1, c2⟩ := corner (c := (lo : Int)) (d := (hi : Int)) n1 n2 g1 g2
    obtain ⟨q1, q2⟩ := loQ_len l1 l2 ly1 ly2
    obtain ⟨b1, b2⟩ := back_enc c1 c2
    rw [ivN_eq] at pr
    generalize loQ X1 X2 (lo : Int) (hi : Int) = L at *
    generalize hiQ X1 X2 (lo : Int) (hi : Int) = H at *
    obtain ⟨u1, -⟩ := div_len hP q1
    obtain ⟨-, u2⟩ := div_len hP q2
    obtain ⟨v1, -⟩ := div_len hP2 u1
    obtain ⟨-, v2⟩ := div_len hP2 u2
    have bk := ref4_Back (a := L / ((2 ^ (w + 150) : Nat) : Int)) (b := cdZ H (2 ^ (w + 150))) (by omega) (by omega) 150 (by omega) (by omega)
    refine ⟨_, _, ?_, b1, b2, by omega, by omega⟩
    clear b1 b2 c1 c2 n1 n2 g1 g2 hpi
    generalize L / ((2 ^ (w + 150) : Nat) : Int) / ((2 ^ 150 : Nat) : Int) = A at *
    generalize L / ((2 ^ (w + 150) : Nat) : Int) = A1 at *
    generalize cdZ (cdZ H (2 ^ (w + 150))) (2 ^ 150) = B at *
    generalize cdZ H (2 ^ (w + 150)) = B1 at *
    rw [ew] at nm pi pr
    obtain ⟨s, n, d, rfl, -⟩ := hv
    refine Go.Ev.Fn.intro (fn := Tryz.f45) (body := (Tryz.f45).body.get!) (by kernel_rfl) (by kernel_rfl) (by kernel_rfl) (fun _ => rfl) (Nat.le_of_ble_eq_true (by kernel_rfl)) ?_; unfold Tryz.f45; simp only [Option.get!_some]
    repeat (first | (simp only [go_sem, Nat.reduceEqDiff, Nat.reduceAdd, Nat.reduceSub, Nat.reduceMul, Nat.reduceLeDiff, Nat.reduceLT, reduceIte, reduceCtorEq, Nat.succ_ne_zero, elemsC, Int.reduceToNat, Nat.reducePow]) | (simp (disch := (first | omega | (simp only [AL, List.length_map]; omega))) only [AR, AL, ifT, ifF, take_all, List.length_cons, List.length_nil, Int.reduceToNat, Int.reducePow, Nat.reducePow]) | (refine wk_intro (by kernel_rfl) ?_) | (refine vp_draw (id := 6) (l := []) (by kernel_rfl) ?_) | (refine vf_of (by first | exact nm | exact pi | exact pr | exact bk) ?_))
end
end Go.Proofs.YthbjgdmcnonofaaGreat

/- vernierref9.Ball; vernierlaw9: big, GamBalls, in the evaluator. -/
namespace Go.Proofs.YthbjgdmcnonofaaGreat
set_option linter.unusedSimpArgs false
set_option linter.unusedVariables false
set_option maxRecDepth 8000
open Go.Ev
section
variable {v : SV} {q : Rat} {P : Nat} {roots : Int}
theorem ref9_Ball (hv : RatA v q 3) (hr : 0 < roots) (hr2 : roots < 9223372036854775808) (hP : P ≤ 120) : ∃ lo hi : Rat, Go.Ev.Fn CX 13 [v, .int .i64 roots, .int .i64 ((P : Int) + 20)] (ballR lo hi) ∧ lo ≤ q * (if roots = 1 then SQ else SQ * SQ) ∧ q * (if roots = 1 then SQ else SQ * SQ) ≤ hi ∧ szR lo 210 ∧ szR hi 210 := by
  obtain ⟨k, hk, hk1, hk2⟩ : ∃ k : Nat, (k = 1 ∨ k = 2) ∧ (if (2 : Int) < roots then (2 : Int) else roots) = (k : Int) ∧ (k = 1 ↔ roots = 1) := by
    by_cases h : roots = 1
    · exact ⟨1, .inl rfl, by rw [if_neg (by omega)]; omega, by omega⟩
    · exact ⟨2, .inr rfl, by split <;> omega, by omega⟩
  obtain ⟨A, B, f, g1, g2, z1, z2⟩ := ref9_Iv hv (w := P + 40) (by omega) (by omega) k hk
  have hT : (if k = 1 then SQ else SQ * SQ) = (if roots = 1 then SQ else SQ * SQ) := by
    by_cases h : roots = 1
    · rw [if_pos h, if_pos (hk2.2 h)]
    · rw [if_neg h, if_neg (fun g => h (hk2.1 g))]
  rw [hT] at g1 g2
  have bl := ref4_Ball (a := A) (b := B) (by omega) (by omega) (P + 40) (by omega)
  have W := p2_pos (P + 40)
  have m1 : mkRat A (2 ^ (P + 40)) * p2 (P + 40) = (A : Rat) := mk_mul A (Nat.pow_pos (by omega))
  have m2 : mkRat B (2 ^ (P + 40)) * p2 (P + 40) = (B : Rat) := mk_mul B (Nat.pow_pos (by omega))
  have l := lim_len_shl (a := 1) (n := P + 40)
  have l1 := lim_len1
  rw [Nat.one_mul] at l
  have y1 := szR_mk (s := decide (A < 0)) (n := A.natAbs) (d := 2 ^ (P + 40)) (L := 210) (by omega) (by omega) (by omega)
  have y2 := szR_mk (s := decide (B < 0)) (n := B.natAbs) (d := 2 ^ (P + 40)) (L := 210) (by omega) (by omega) (by omega)
  rw [sgn_self] at y1 y2
  refine ⟨_, _, ?_, le_by W (by rw [m1]; exact g1), le_by W (by rw [m2]; exact g2), y1, y2⟩
  clear m1 m2 y1 y2 g1 g2 l hT
  generalize mkRat A (2 ^ (P + 40)) = x at *
  generalize mkRat B (2 ^ (P + 40)) = y at *
  rw [show ((P + 40 : Nat) : Int) = (P : Int) + 40 from rfl] at f bl
  have e1 : (if (0 : Int) > roots then (0 : Int) else roots) = roots := if_neg (by omega)
  have e2 : (if (0 : Int) > (P : Int) + 20 then (0 : Int) else (P : Int) + 20) = (P : Int) + 20 := if_neg (by omega)
  have e3 : (if (200 : Int) < (P : Int) + 20 then (200 : Int) else (P : Int) + 20) = (P : Int) + 20 := if_neg (by omega)
  have e4 : decide ((k : Int) = 0) = false := decide_eq_false (by omega)
  obtain ⟨s, n, d, rfl, -⟩ := hv
  refine Go.Ev.Fn.intro (fn := Tryz.f13) (body := (Tryz.f13).body.get!) (by kernel_rfl) (by kernel_rfl) (by kernel_rfl) (fun _ => rfl) (Nat.le_of_ble_eq_true (by kernel_rfl)) ?_; unfold Tryz.f13; simp only [Option.get!_some]
  repeat (first | (simp only [go_sem, Nat.reduceEqDiff, Nat.reduceAdd, Nat.reduceSub, Nat.reduceMul, Nat.reduceLeDiff, Nat.reduceLT, reduceIte, reduceCtorEq, Nat.succ_ne_zero, elemsC, Int.reduceToNat, Nat.reducePow, e1, hk1, e2, e3, e4]) | (simp (disch := (first | omega | (simp only [AL, List.length_map]; omega))) only [AR, AL, ifT, ifF, take_all, List.length_cons, List.length_nil, Int.reduceToNat, Int.reducePow, Nat.reducePow, e1, hk1, e2, e3, e4]) | (refine wk_intro (by kernel_rfl) ?_) | (refine vf_of (by first | exact f | exact bl) ?_))
end
theorem law9_big (s : Bool) (n d : List Nat) (hn : n.length ≤ 9223372036854775807) (hd : d.length ≤ 9223372036854775807) : Go.Ev.Fn CX 7 [.sl 1 [.bool s, natV n, natV d]] (.bool (decide (3 < n.length) || decide (3 < d.length))) := by
  refine Go.Ev.Fn.intro (fn := Tryz.f7) (body := (Tryz.f7).body.get!) (by kernel_rfl) (by kernel_rfl) (by kernel_rfl) (fun _ => rfl) (Nat.le_of_ble_eq_true (by kernel_rfl)) ?_; unfold Tryz.f7; simp only [Option.get!_some]
  repeat (first | (simp only [go_sem, Nat.reduceEqDiff, Nat.reduceAdd, Nat.reduceSub, Nat.reduceMul, Nat.reduceLeDiff, Nat.reduceLT, reduceIte, reduceCtorEq, Nat.succ_ne_zero, elemsC, Int.reduceToNat, Nat.reducePow]) | (simp (disch := (first | omega | (simp only [AL, List.length_map]; omega))) only [AR, AL, ifT, ifF, take_all, List.length_cons, List.length_nil, Int.reduceToNat, Int.reducePow, Nat.reducePow]) | (refine wk_intro (by kernel_rfl) ?_))
  refine vp_loop_inv (fun st => st.tmp 0 = .sv (.sl 1 [.bool s, natV n, natV d]) ∧ ((st.tmp 3 = .sv (.int .i64 0)) ∨ (st.tmp 3 = .sv (.int .i64 1) ∧ n.length ≤ 3 ∧ d.length ≤ 3)))
    (fun st => match st.tmp 3 with | .sv (.int _ i) => 1 - i.toNat | _ => 0) ⟨rfl, .inl rfl⟩ ?_
  rintro st ⟨i0, i3 | ⟨i3, h1, h2⟩⟩
  · by_cases h1 : 3 < n.length
    · rw [decide_eq_true h1, Bool.true_or]
      repeat (first | (simp only [go_sem, Nat.reduceEqDiff, Nat.reduceAdd, Nat.reduceSub, Nat.reduceMul, Nat.reduceLeDiff, Nat.reduceLT, reduceIte, reduceCtorEq, Nat.succ_ne_zero, elemsC, Int.reduceToNat, Nat.reducePow, i0, i3]) | (simp (disch := (first | omega | (simp only [AL, List.length_map]; omega))) only [AR, AL, ifT, ifF, take_all, List.length_cons, List.length_nil, Int.reduceToNat, Int.reducePow, Nat.reducePow, i0, i3]) | (refine wk_intro (by kernel_rfl) ?_))
    · rw [decide_eq_false h1, Bool.false_or]
      by_cases h2 : 3 < d.length
      · rw [decide_eq_true h2]
        repeat (first | (simp only [go_sem, Nat.reduceEqDiff, Nat.reduceAdd, Nat.reduceSub, Nat.reduceMul, Nat.reduceLeDiff, Nat.reduceLT, reduceIte, reduceCtorEq, Nat.succ_ne_zero, elemsC, Int.reduceToNat, Nat.reducePow, i0, i3]) | (simp (disch := (first | omega | (simp only [AL, List.length_map]; omega))) only [AR, AL, ifT, ifF, take_all, List.length_cons, List.length_nil, Int.reduceToNat, Int.reducePow, Nat.reducePow, i0, i3]) | (refine wk_intro (by kernel_rfl) ?_))
      · rw [decide_eq_false h2]
        repeat (first | (simp only [go_sem, Nat.reduceEqDiff, Nat.reduceAdd, Nat.reduceSub, Nat.reduceMul, Nat.reduceLeDiff, Nat.reduceLT, reduceIte, reduceCtorEq, Nat.succ_ne_zero, elemsC, Int.reduceToNat, Nat.reducePow, i0, i3]) | (simp (disch := (first | omega | (simp only [AL, List.length_map]; omega))) only [AR, AL, ifT, ifF, take_all, List.length_cons, List.length_nil, Int.reduceToNat, Int.reducePow, Nat.reducePow, i0, i3]) | (refine wk_intro (by kernel_rfl) ?_))
        first | exact ⟨.inr ⟨rfl, by omega, by omega⟩, by decide⟩ | exact ⟨by omega, by omega⟩
  · rw [decide_eq_false (by omega), decide_eq_false (by omega), Bool.or_false]
    repeat (first | (simp only [go_sem, Nat.reduceEqDiff, Nat.reduceAdd, Nat.reduceSub, Nat.reduceMul, Nat.reduceLeDiff, Nat.reduceLT, reduceIte, reduceCtorEq, Nat.succ_ne_zero, elemsC, Int.reduceToNat, Nat.reducePow, i0, i3]) | (simp (disch := (first | omega | (simp only [AL, List.length_map]; omega))) only [AR, AL, ifT, ifF, take_all, List.length_cons, List.length_nil, Int.reduceToNat, Int.reducePow, Nat.reducePow, i0, i3]) | (refine wk_intro (by kernel_rfl) ?_))
section
variable {q : Rat} {roots p : Int} {s : Bool} {n d : List Nat}
theorem balls_out (hn : n.length ≤ 9223372036854775807) (hd : d.length ≤ 9223372036854775807) (hp : -9223372036854775808 ≤ p ∧ p < 9223372036854775808) (h : 3 < n.length ∨ 3 < d.length ∨ 120 < p) : Go.Ev.Fn CX 3 [ratV s n d, .int .i64 roots, .int .i64 p] (.bool true) := by
  have b := law9_big s n d hn hd
  by_cases h1 : 120 < p
  · generalize (decide (3 < n.length) || decide (3 < d.length)) = c at *
    cases c
    · refine Go.Ev.Fn.intro (fn := Tryz.f3) (body := (Tryz.f3).body.get!) (by kernel_rfl) (by kernel_rfl) (by kernel_rfl) (fun _ => rfl) (Nat.le_of_ble_eq_true (by kernel_rfl)) ?_; unfold Tryz.f3; simp only [Option.get!_some]
      repeat (first | (simp only [go_sem, Nat.reduceEqDiff, Nat.reduceAdd, Nat.reduceSub, Nat.reduceMul, Nat.reduceLeDiff, Nat.reduceLT, reduceIte, reduceCtorEq, Nat.succ_ne_zero, elemsC, Int.reduceToNat, Nat.reducePow]) | (simp (disch := (first | omega | (simp only [AL, List.length_map]; omega))) only [AR, AL, ifT, ifF, take_all, List.length_cons, List.length_nil, Int.reduceToNat, Int.reducePow, Nat.reducePow]) | (refine wk_intro (by kernel_rfl) ?_) | (refine vp_draw (id := 5) (l := []) (by kernel_rfl) ?_) | (refine vp_draw (id := 6) (l := []) (by kernel_rfl) ?_) | (refine vf_of (by first | exact b) ?_))
    · refine Go.Ev.Fn.intro (fn := Tryz.f3) (body := (Tryz.f3).body.get!) (by kernel_rfl) (by kernel_rfl) (by kernel_rfl) (fun _ => rfl) (Nat.le_of_ble_eq_true (by kernel_rfl)) ?_; unfold Tryz.f3; simp only [Option.get!_some]
      repeat (first | (simp only [go_sem, Nat.reduceEqDiff, Nat.reduceAdd, Nat.reduceSub, Nat.reduceMul, Nat.reduceLeDiff, Nat.reduceLT, reduceIte, reduceCtorEq, Nat.succ_ne_zero, elemsC, Int.reduceToNat, Nat.reducePow]) | (simp (disch := (first | omega | (simp only [AL, List.length_map]; omega))) only [AR, AL, ifT, ifF, take_all, List.length_cons, List.length_nil, Int.reduceToNat, Int.reducePow, Nat.reducePow]) | (refine wk_intro (by kernel_rfl) ?_) | (refine vp_draw (id := 5) (l := []) (by kernel_rfl) ?_) | (refine vp_draw (id := 6) (l := []) (by kernel_rfl) ?_) | (refine vf_of (by first | exact b) ?_))
  · rw [show (decide (3 < n.length) || decide (3 < d.length)) = true by rcases h with h | h | h; (rw [decide_eq_true h, Bool.true_or]); (rw [decide_eq_true h, Bool.or_true]); exact absurd h h1] at b
    refine Go.Ev.Fn.intro (fn := Tryz.f3) (body := (Tryz.f3).body.get!) (by kernel_rfl) (by kernel_rfl) (by kernel_rfl) (fun _ => rfl) (Nat.le_of_ble_eq_true (by kernel_rfl)) ?_; unfold Tryz.f3; simp only [Option.get!_some]
    repeat (first | (simp only [go_sem, Nat.reduceEqDiff, Nat.reduceAdd, Nat.reduceSub, Nat.reduceMul, Nat.reduceLeDiff, Nat.reduceLT, reduceIte, reduceCtorEq, Nat.succ_ne_zero, elemsC, Int.reduceToNat, Nat.reducePow]) | (simp (disch := (first | omega | (simp only [AL, List.length_map]; omega))) only [AR, AL, ifT, ifF, take_all, List.length_cons, List.length_nil, Int.reduceToNat, Int.reducePow, Nat.reducePow]) | (refine wk_intro (by kernel_rfl) ?_) | (refine vp_draw (id := 5) (l := []) (by kernel_rfl) ?_) | (refine vp_draw (id := 6) (l := []) (by kernel_rfl) ?_) | (refine vf_of (by first | exact b) ?_))
theorem balls_main (hv : RatA (ratV s n d) q 3) (h1 : n.length ≤ 3) (h2 : d.length ≤ 3) (hp : -9223372036854775808 ≤ p ∧ p ≤ 120) (hr : -9223372036854775808 ≤ roots ∧ roots < 9223372036854775808) :
    Go.Ev.Fn CX 3 [ratV s n d, .int .i64 roots, .int .i64 p] (.bool true) := by
  have b := law9_big s n d (by omega) (by omega)
  rw [decide_eq_false (by omega), decide_eq_false (by omega), Bool.or_false] at b
  have zq := szR_of hv (by omega)
  by_cases h0 : roots ≤ 0
  · have g := gam_Ball0 (pI := p) hv h0 (by omega)
    have o := ref4_Of hv (by omega)
    have sm := ref4_Same zq zq (by omega) (by omega)
    refine Go.Ev.Fn.intro (fn := Tryz.f3) (body := (Tryz.f3).body.get!) (by kernel_rfl) (by kernel_rfl) (by kernel_rfl) (fun _ => rfl) (Nat.le_of_ble_eq_true (by kernel_rfl)) ?_; unfold Tryz.f3; simp only [Option.get!_some]
    repeat (first | (simp only [go_sem, Nat.reduceEqDiff, Nat.reduceAdd, Nat.reduceSub, Nat.reduceMul, Nat.reduceLeDiff, Nat.reduceLT, reduceIte, reduceCtorEq, Nat.succ_ne_zero, elemsC, Int.reduceToNat, Nat.reducePow]) | (simp (disch := (first | omega | (simp only [AL, List.length_map]; omega))) only [AR, AL, ifT, ifF, take_all, List.length_cons, List.length_nil, Int.reduceToNat, Int.reducePow, Nat.reducePow]) | (refine wk_intro (by kernel_rfl) ?_) | (refine vp_draw (id := 5) (l := []) (by kernel_rfl) ?_) | (refine vp_draw (id := 6) (l := []) (by kernel_rfl) ?_) | (refine vf_of (by first | exact b | exact g | exact o | exact sm | exact known_fn) ?_))
  · obtain ⟨P, hP, hP2⟩ : ∃ P : Nat, ((p ≤ 0 ∧ P = 0) ∨ p = (P : Int)) ∧ P ≤ 120 := by
      by_cases g : p ≤ 0
      · exact ⟨0, .inl ⟨g, rfl⟩, by omega⟩
      · exact ⟨p.toNat, .inr (by omega), by omega⟩
    obtain ⟨lo, hi, f, k1, k2, k3, y1, y2⟩ := gam_Ball hv (by omega) hr.2 hP hP2 (by omega)
    obtain ⟨lo', hi', f', k1', k2', y1', y2'⟩ := ref9_Ball hv (roots := roots) (by omega) hr.2 hP2
    have gd := ref4_Good hP (by omega) y1 y2 y1' y2' (by omega) (by omega) (by omega) (Rat.le_trans k1 k2) (Rat.le_trans k1' k2) (Rat.le_trans k1 k2') k3
    have e1 : (if (0 : Int) > p then (0 : Int) else p) = (P : Int) := by split <;> omega
    clear k1 k2 k3 k1' k2'
    refine Go.Ev.Fn.intro (fn := Tryz.f3) (body := (Tryz.f3).body.get!) (by kernel_rfl) (by kernel_rfl) (by kernel_rfl) (fun _ => rfl) (Nat.le_of_ble_eq_true (by kernel_rfl)) ?_; unfold Tryz.f3; simp only [Option.get!_some]
    repeat (first | (simp only [go_sem, Nat.reduceEqDiff, Nat.reduceAdd, Nat.reduceSub, Nat.reduceMul, Nat.reduceLeDiff, Nat.reduceLT, reduceIte, reduceCtorEq, Nat.succ_ne_zero, elemsC, Int.reduceToNat, Nat.reducePow, e1]) | (simp (disch := (first | omega | (simp only [AL, List.length_map]; omega))) only [AR, AL, ifT, ifF, take_all, List.length_cons, List.length_nil, Int.reduceToNat, Int.reducePow, Nat.reducePow, e1]) | (refine wk_intro (by kernel_rfl) ?_) | (refine vp_draw (id := 5) (l := []) (by kernel_rfl) ?_) | (refine vp_draw (id := 6) (l := []) (by kernel_rfl) ?_) | (refine vf_of (by first | exact b | exact f | exact f' | exact gd | exact known_fn) ?_))
end
theorem wf_int64g {n : Int} (h : (Lit.int .i64 n).wf = true) : -9223372036854775808 ≤ n ∧ n < 9223372036854775808 := by
  have h' : decide (IntKind.i64.min ≤ n ∧ n ≤ IntKind.i64.max) = true := by simpa [Lit.wf] using h
  have := of_decide_eq_true h'
  simp only [show IntKind.i64.min = -9223372036854775808 from rfl, show IntKind.i64.max = 9223372036854775807 from rfl] at this
  omega
theorem balls_law (ss0 : List SV) (sh0 : ShpT Tryz.prog 6 24 ss0) (roots : Int) (w1 : (Lit.int .i64 roots).wf = true) (p : Int) (w2 : (Lit.int .i64 p).wf = true) :
    Go.Ev.Fn CX 3 [.agg ss0, .int .i64 roots, .int .i64 p] (.bool true) := by
  obtain ⟨s, n, d, rfl, hn, hd, ln, ld⟩ := shp_rat (n := 3) sh0
  have r1 := wf_int64g w1
  have r2 := wf_int64g w2
  have m1 := Nat.le_trans ln (show maxLen ≤ 9223372036854775807 by decide)
  have m2 := Nat.le_trans ld (show maxLen ≤ 9223372036854775807 by decide)
  by_cases c : n.length ≤ 3 ∧ d.length ≤ 3 ∧ p ≤ 120
  · exact balls_main ⟨s, n, d, rfl, hn, hd, c.1, c.2.1, rfl⟩ c.1 c.2.1 ⟨r2.1, c.2.2⟩ r1
  · exact balls_out m1 m2 r2 (by omega)
end Go.Proofs.YthbjgdmcnonofaaGreat
