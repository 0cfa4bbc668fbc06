/- Part 10 of the proof: the evaluator, contracts of functions and their plain laws (joined by program). No condition. -/
import Derived.Test.YtemnjalaincijaaGreatPart9
set_option linter.unusedVariables false
set_option linter.unusedSimpArgs false
set_option maxRecDepth 100000
namespace Go.Proofs.YtemnjalaincijaaGreat
open Go.Ev
theorem mk_in {w A B : Nat} {V : Rat} (h : Enc w A B V) : mkRat (A : Int) (2 ^ w) ≤ V ∧ V ≤ mkRat (B : Int) (2 ^ w) := by
  have P := p2_pos w
  exact ⟨le_by P (by rw [mk_p2]; exact h.1), le_by P (by rw [mk_p2]; exact h.2)⟩
section
variable {v : SV} {x : Rat} {w n p : Nat}
theorem ref11_out {nI : Int} (hv : RatA v x 7) (hn1 : -9223372036854775808 ≤ nI ∧ nI < 9223372036854775808) (h : nI < 1 ∨ 256 < nI ∨ x < 0 ∨ 64 < x) : Go.Ev.Fn CX 65 [.int .i64 nI, v] (.bool true) := by
  have nm := ref2_Norm hv (by omega)
  have zx := szR_of hv (by omega)
  have i6 := ref2_Int 64 (by omega)
  have c2 := ref2_Cmp (RatA_rv zx) (RatA_rv (int_szR (n := 64) (by omega))) (by omega) (by omega) (by omega)
  have e2 : decide (cmpR x ((64 : Int) : Rat) > 0) = decide (64 < x) := by rw [cmpR_gt]; rfl
  generalize cmpR x ((64 : Int) : Rat) = y2 at *
  have er : rv x = ratV (decide (x < 0)) (lim x.num.natAbs) (lim x.den) := by rw [← neg_numX]
  rw [er] at nm c2
  by_cases g1 : nI < 1
  · clear h
    obtain ⟨s, N, D, rfl, -⟩ := hv
    refine Go.Ev.Fn.intro (fn := Tryz.f65) (body := (Tryz.f65).body.get!) (by kernel_rfl) (by kernel_rfl) (by kernel_rfl) (fun _ => rfl) (Nat.le_of_ble_eq_true (by kernel_rfl)) ?_; unfold Tryz.f65; simp only [Option.get!_some]
    repeat (first | (simp only [go_sem, Nat.reduceEqDiff, Nat.reduceAdd, Nat.reduceSub, Nat.reduceMul, Nat.reduceLeDiff, Nat.reduceLT, reduceIte, reduceCtorEq, Nat.succ_ne_zero, elemsC, Int.reduceToNat, Nat.reducePow]) | (simp (disch := (first | omega | (simp only [AL, List.length_map]; omega))) only [AR, AL, ifT, ifF, take_all, List.length_cons, List.length_nil, Int.reduceToNat, Int.reducePow, Nat.reducePow]) | (refine wk_intro (by kernel_rfl) ?_) | (refine vp_draw (id := 2) (l := []) (by kernel_rfl) ?_) | (refine vf_of (by first | exact nm) ?_))
  by_cases g2 : 256 < nI
  · clear h
    obtain ⟨s, N, D, rfl, -⟩ := hv
    refine Go.Ev.Fn.intro (fn := Tryz.f65) (body := (Tryz.f65).body.get!) (by kernel_rfl) (by kernel_rfl) (by kernel_rfl) (fun _ => rfl) (Nat.le_of_ble_eq_true (by kernel_rfl)) ?_; unfold Tryz.f65; simp only [Option.get!_some]
    repeat (first | (simp only [go_sem, Nat.reduceEqDiff, Nat.reduceAdd, Nat.reduceSub, Nat.reduceMul, Nat.reduceLeDiff, Nat.reduceLT, reduceIte, reduceCtorEq, Nat.succ_ne_zero, elemsC, Int.reduceToNat, Nat.reducePow]) | (simp (disch := (first | omega | (simp only [AL, List.length_map]; omega))) only [AR, AL, ifT, ifF, take_all, List.length_cons, List.length_nil, Int.reduceToNat, Int.reducePow, Nat.reducePow]) | (refine wk_intro (by kernel_rfl) ?_) | (refine vp_draw (id := 2) (l := []) (by kernel_rfl) ?_) | (refine vf_of (by first | exact nm) ?_))
  by_cases g3 : x < 0
  · rw [decide_eq_true g3] at nm
    clear h g3
    obtain ⟨s, N, D, rfl, -⟩ := hv
    refine Go.Ev.Fn.intro (fn := Tryz.f65) (body := (Tryz.f65).body.get!) (by kernel_rfl) (by kernel_rfl) (by kernel_rfl) (fun _ => rfl) (Nat.le_of_ble_eq_true (by kernel_rfl)) ?_; unfold Tryz.f65; simp only [Option.get!_some]
    repeat (first | (simp only [go_sem, Nat.reduceEqDiff, Nat.reduceAdd, Nat.reduceSub, Nat.reduceMul, Nat.reduceLeDiff, Nat.reduceLT, reduceIte, reduceCtorEq, Nat.succ_ne_zero, elemsC, Int.reduceToNat, Nat.reducePow]) | (simp (disch := (first | omega | (simp only [AL, List.length_map]; omega))) only [AR, AL, ifT, ifF, take_all, List.length_cons, List.length_nil, Int.reduceToNat, Int.reducePow, Nat.reducePow]) | (refine wk_intro (by kernel_rfl) ?_) | (refine vp_draw (id := 2) (l := []) (by kernel_rfl) ?_) | (refine vf_of (by first | exact nm) ?_))
  · rw [decide_eq_false g3] at nm c2
    rw [decide_eq_true ((h.resolve_left g1).resolve_left g2 |>.resolve_left g3)] at e2
    clear h g3
    obtain ⟨s, N, D, rfl, -⟩ := hv
    refine Go.Ev.Fn.intro (fn := Tryz.f65) (body := (Tryz.f65).body.get!) (by kernel_rfl) (by kernel_rfl) (by kernel_rfl) (fun _ => rfl) (Nat.le_of_ble_eq_true (by kernel_rfl)) ?_; unfold Tryz.f65; simp only [Option.get!_some]
    repeat (first | (simp only [go_sem, Nat.reduceEqDiff, Nat.reduceAdd, Nat.reduceSub, Nat.reduceMul, Nat.reduceLeDiff, Nat.reduceLT, reduceIte, reduceCtorEq, Nat.succ_ne_zero, elemsC, Int.reduceToNat, Nat.reducePow, e2]) | (simp (disch := (first | omega | (simp only [AL, List.length_map]; omega))) only [AR, AL, ifT, ifF, take_all, List.length_cons, List.length_nil, Int.reduceToNat, Int.reducePow, Nat.reducePow, e2]) | (refine wk_intro (by kernel_rfl) ?_) | (refine vp_draw (id := 2) (l := []) (by kernel_rfl) ?_) | (refine vf_of (by first | exact nm | exact i6 | exact c2) ?_))
theorem ref11_Pout {nI pI : Int} (hv : RatA v x 7) (hn1 : -9223372036854775808 ≤ nI ∧ nI < 9223372036854775808) (h : nI < 1 ∨ 256 < nI ∨ x < 0 ∨ 64 < x) : Go.Ev.Fn CX 17 [.int .i64 nI, v, .int .i64 pI] (.tup [ballR 0 0, .bool false]) := by
  have bd := ref11_out hv hn1 h
  have i0 := ref2_Int 0 (by omega)
  have o := ref4_Of (RatA_rv (int_szR (n := 0) (by omega))) (by omega)
  rw [show ((0 : Int) : Rat) = 0 from rfl] at i0 o
  clear h
  obtain ⟨s, N, D, rfl, -⟩ := hv
  refine Go.Ev.Fn.intro (fn := Tryz.f17) (body := (Tryz.f17).body.get!) (by kernel_rfl) (by kernel_rfl) (by kernel_rfl) (fun _ => rfl) (Nat.le_of_ble_eq_true (by kernel_rfl)) ?_; unfold Tryz.f17; simp only [Option.get!_some]
  repeat (first | (simp only [go_sem, Nat.reduceEqDiff, Nat.reduceAdd, Nat.reduceSub, Nat.reduceMul, Nat.reduceLeDiff, Nat.reduceLT, reduceIte, reduceCtorEq, Nat.succ_ne_zero, elemsC, Int.reduceToNat, Nat.reducePow]) | (simp (disch := (first | omega | (simp only [AL, List.length_map]; omega))) only [AR, AL, ifT, ifF, take_all, List.length_cons, List.length_nil, Int.reduceToNat, Int.reducePow, Nat.reducePow]) | (refine wk_intro (by kernel_rfl) ?_) | (refine vf_of (by first | exact i0 | exact o | exact bd) ?_))
theorem ref4_NegI {a b : Rat} {L : Nat} (ha : szR a L) (hb : szR b L) (hL1 : 1 ≤ L) (hL : L ≤ 100000) : Go.Ev.Fn CX 48 [ballR a b] (ballR (-b) (-a)) := by
  have n1 := ref2_Neg (RatA_rv ha) hL1 (by omega)
  have n2 := ref2_Neg (RatA_rv hb) hL1 (by omega)
  generalize -a = u at *
  generalize -b = w at *
  refine Go.Ev.Fn.intro (fn := Tryz.f48) (body := (Tryz.f48).body.get!) (by kernel_rfl) (by kernel_rfl) (by kernel_rfl) (fun _ => rfl) (Nat.le_of_ble_eq_true (by kernel_rfl)) ?_; unfold Tryz.f48; simp only [Option.get!_some]
  repeat (first | (simp only [go_sem, Nat.reduceEqDiff, Nat.reduceAdd, Nat.reduceSub, Nat.reduceMul, Nat.reduceLeDiff, Nat.reduceLT, reduceIte, reduceCtorEq, Nat.succ_ne_zero, elemsC, Int.reduceToNat, Nat.reducePow]) | (simp (disch := (first | omega | (simp only [AL, List.length_map]; omega))) only [AR, AL, ifT, ifF, take_all, List.length_cons, List.length_nil, Int.reduceToNat, Int.reducePow, Nat.reducePow]) | (refine wk_intro (by kernel_rfl) ?_) | (refine vp_draw (id := 1) (l := []) (by kernel_rfl) ?_) | (refine vf_of (by first | exact n2 | exact n1) ?_))
theorem ref4_SubI {a b c d : Rat} {L M : Nat} (ha : szR a L) (hb : szR b L) (hc : szR c M) (hd : szR d M) (hL1 : 1 ≤ L) (hM1 : 1 ≤ M) (hL : L + M ≤ 100000) : Go.Ev.Fn CX 70 [ballR a b, ballR c d] (ballR (a - d) (b - c)) := by
  have s1 := ref4_NegI hc hd hM1 (by omega)
  have s2 := ref4_AddE ha hb (szR_neg hd) (szR_neg hc) hL1 hM1 hL
  rw [← Rat.sub_eq_add_neg, ← Rat.sub_eq_add_neg] at s2
  generalize a - d = x at *
  generalize b - c = y at *
  generalize -c = u at *
  generalize -d = w at *
  refine Go.Ev.Fn.intro (fn := Tryz.f70) (body := (Tryz.f70).body.get!) (by kernel_rfl) (by kernel_rfl) (by kernel_rfl) (fun _ => rfl) (Nat.le_of_ble_eq_true (by kernel_rfl)) ?_; unfold Tryz.f70; simp only [Option.get!_some]
  repeat (first | (simp only [go_sem, Nat.reduceEqDiff, Nat.reduceAdd, Nat.reduceSub, Nat.reduceMul, Nat.reduceLeDiff, Nat.reduceLT, reduceIte, reduceCtorEq, Nat.succ_ne_zero, elemsC, Int.reduceToNat, Nat.reducePow]) | (simp (disch := (first | omega | (simp only [AL, List.length_map]; omega))) only [AR, AL, ifT, ifF, take_all, List.length_cons, List.length_nil, Int.reduceToNat, Int.reducePow, Nat.reducePow]) | (refine wk_intro (by kernel_rfl) ?_) | (refine vp_draw (id := 1) (l := []) (by kernel_rfl) ?_) | (refine vf_of (by first | exact s1 | exact s2) ?_))
end
end Go.Proofs.YtemnjalaincijaaGreat
namespace Go.Proofs.YtemnjalaincijaaGreat
open Go.Ev
section
variable {n d w many : Nat}
end
end Go.Proofs.YtemnjalaincijaaGreat
namespace Go.Proofs.YtemnjalaincijaaGreat
open Go.Ev
section
variable {z : Rat} {w P : Nat} {pI : Int}
end
end Go.Proofs.YtemnjalaincijaaGreat
namespace Go.Proofs.YtemnjalaincijaaGreat
open Go.Ev
theorem dif_sq (c : Rat) : Dif (fun u => c * (u * u)) (fun u => c * (u + u)) :=
  dif_congr (dif_mul (dif_const c) (dif_mul dif_id dif_id)) (fun u => rfl) (fun u => by
    show c * (u * 1 + 1 * u) + 0 * (u * u) = c * (u + u); grind)
theorem sq_unit {u : Rat} (h0 : 0 ≤ u) (h1 : u ≤ 1) : 0 ≤ u * u ∧ u * u ≤ 1 := by
  have a := Rat.mul_nonneg h0 h0
  have b := Rat.mul_le_mul_of_nonneg_left h1 h0
  exact ⟨a, by grind⟩
end Go.Proofs.YtemnjalaincijaaGreat
namespace Go.Proofs.YtemnjalaincijaaGreat
open Go.Ev
def wT : Nat → Rat → Rat
  | 0, _ => 1
  | 1, t => t * (1 / SQ) * 2
  | m + 2, t => wT m t * (t * t * 2) * ((1 : Nat) : Rat) / ((m + 2 : Nat) : Rat)
theorem wT_step (m : Nat) (t : Rat) : ((m + 2 : Nat) : Rat) * wT (m + 2) t = wT m t * (t * t * 2) := by
  have c : ((m + 2 : Nat) : Rat) ≠ 0 := Ex.nsucc_ne (m + 1)
  show _ * (wT m t * (t * t * 2) * ((1 : Nat) : Rat) / _) = _
  rw [Ex.mul_div _ _ c, show ((1 : Nat) : Rat) = 1 from rfl, Rat.mul_one]
theorem wT_tk (n : Nat) (t : Rat) : ∀ j, wT (n + 2 * j) t = wT n t * tk (t * t * 2) (n + 2) j
  | 0 => by show wT n t = wT n t * 1; rw [Rat.mul_one]
  | j + 1 => by
    have ih := wT_tk n t j
    have e : wT (n + 2 * (j + 1)) t = wT (n + 2 * j) t * (t * t * 2) * ((1 : Nat) : Rat) / ((n + 2 * j + 2 : Nat) : Rat) := rfl
    rw [e, ih, show n + 2 * j + 2 = n + 2 + 2 * j by omega]
    show _ = wT n t * (tk (t * t * 2) (n + 2) j * (t * t * 2) * ((1 : Nat) : Rat) / ((n + 2 + 2 * j : Nat) : Rat))
    rw [Rat.div_def, Rat.div_def]; grind
theorem wT_ig (n : Nat) (t : Rat) : wT n t = igC n t * tk (t * t * 2) (2 + n % 2) (n / 2) := by
  rcases Nat.mod_two_eq_zero_or_one n with h | h
  · have e := wT_tk 0 t (n / 2)
    rw [show 0 + 2 * (n / 2) = n by omega] at e
    rw [e, h, show igC n t = 1 from if_neg (by omega)]; rfl
  · have e := wT_tk 1 t (n / 2)
    rw [show 1 + 2 * (n / 2) = n by omega] at e
    rw [e, h, show igC n t = t * (1 / SQ) * 2 from if_pos h]; rfl
def wA (n : Nat) (t : Rat) : Nat → Rat
  | 0 => 0
  | L + 1 => wA n t L + wT (n + 2 * L) t
theorem wA_is (n : Nat) (t : Rat) : ∀ L, wA n t L = wT n t * sk (t * t * 2) (n + 2) L
  | 0 => by show (0 : Rat) = _ * 0; rw [Rat.mul_zero]
  | L + 1 => by
    have ih := wA_is n t L
    show wA n t L + wT (n + 2 * L) t = wT n t * (sk (t * t * 2) (n + 2) L + tk (t * t * 2) (n + 2) L)
    rw [ih, wT_tk, Rat.mul_add]
theorem igV_sq (n : Nat) (t : Rat) (L : Nat) : igV n t (t * t) L = wA n t L * evX (-(t * t)) L := by
  unfold igV
  rw [← wT_ig, wA_is, Rat.one_mul]
theorem wT_one (m : Nat) (t : Rat) (h : 0 ≤ t) (h8 : t ≤ 8) : 0 ≤ wT m t ∧ wT m t ≤ 16 * Ex.tm (t * t) (m / 2) := by
  induction m using Nat.strongRecOn with
  | _ m ih =>
    match m with
    | 0 => exact ⟨by show (0 : Rat) ≤ 1; decide, by show (1 : Rat) ≤ 16 * 1; decide +kernel⟩
    | 1 =>
      have q := SQ_one.1
      have i1 : SQ * (1 / SQ) = 1 := Ex.mul_div _ 1 (by grind)
      have i0 : 0 ≤ 1 / SQ := Ex.div_nn (by decide) (by grind)
      have i2 := Rat.mul_le_mul_of_nonneg_right q i0
      rw [i1, Rat.one_mul] at i2
      have a := Rat.mul_nonneg h i0
      have b := mul_le h8 i2 (by decide) i0
      show 0 ≤ t * (1 / SQ) * 2 ∧ t * (1 / SQ) * 2 ≤ 16 * 1
      constructor <;> grind
    | k + 2 =>
      obtain ⟨i1, i2⟩ := ih k (by omega)
      have s := wT_step k t
      have c : (0 : Rat) < ((k + 2 : Nat) : Rat) := Ex.nsucc_pos (k + 1)
      have s2 := Ex.tm_succ (t * t) (k / 2)
      have tt := Rat.mul_nonneg h h
      have tn := Ex.tm_nn tt (k / 2 + 1)
      rw [show (k + 2) / 2 = k / 2 + 1 by omega]
      refine ⟨le_by c ?_, le_by c ?_⟩
      · rw [Rat.zero_mul, Rat.mul_comm, s]; exact Rat.mul_nonneg i1 (by grind)
      · rw [Rat.mul_comm (wT (k + 2) t), s]
        have m1 := Rat.mul_le_mul_of_nonneg_right i2 (show 0 ≤ t * t * 2 by grind)
        have c2 : ((2 * (k / 2 + 1) : Nat) : Rat) ≤ ((k + 2 : Nat) : Rat) := Ex.castle (by omega)
        rw [Ex.castmul, show ((2 : Nat) : Rat) = 2 from rfl] at c2
        have m2 := Rat.mul_le_mul_of_nonneg_right c2 (show 0 ≤ 16 * Ex.tm (t * t) (k / 2 + 1) by grind)
        have e : 16 * Ex.tm (t * t) (k / 2) * (t * t * 2) = 2 * ((k / 2 + 1 : Nat) : Rat) * (16 * Ex.tm (t * t) (k / 2 + 1)) := by
          have : t * t * Ex.tm (t * t) (k / 2) = ((k / 2 + 1 : Nat) : Rat) * Ex.tm (t * t) (k / 2 + 1) := s2.symm
          grind
        rw [e] at m1
        grind
theorem wA_le (n : Nat) (t : Rat) (h : 0 ≤ t) (h8 : t ≤ 8) : ∀ L, 0 ≤ wA n t L ∧ wA n t L ≤ 16 * (Ex.E (t * t) (n / 2 + L) - Ex.E (t * t) (n / 2))
  | 0 => by show (0 : Rat) ≤ 0 ∧ 0 ≤ 16 * (Ex.E (t * t) (n / 2) - Ex.E (t * t) (n / 2)); rw [Rat.sub_self, Rat.mul_zero]; exact ⟨Rat.le_refl, Rat.le_refl⟩
  | L + 1 => by
    obtain ⟨i1, i2⟩ := wA_le n t h h8 L
    obtain ⟨a, b⟩ := wT_one (n + 2 * L) t h h8
    rw [show (n + 2 * L) / 2 = n / 2 + L by omega] at b
    show 0 ≤ wA n t L + wT (n + 2 * L) t ∧ wA n t L + wT (n + 2 * L) t ≤ 16 * (Ex.E (t * t) (n / 2 + L) + Ex.tm (t * t) (n / 2 + L) - Ex.E (t * t) (n / 2))
    constructor <;> grind
def wD : Nat → Rat → Rat
  | 0, _ => 0
  | 1, _ => 8 * ((1 / SQ) * 2)
  | m + 2, u => 128 * u * wT m (8 * u)
theorem dif_wT : ∀ m, Dif (fun u => wT m (8 * u)) (wD m) := by
  intro m
  induction m using Nat.strongRecOn with
  | _ m ih =>
    match m with
    | 0 => exact dif_const 1
    | 1 => exact dif_congr (dif_mul (dif_const (8 * ((1 / SQ) * 2))) dif_id) (fun u => by show 8 * ((1 / SQ) * 2) * u = 8 * u * (1 / SQ) * 2; grind) (fun u => by show 8 * ((1 / SQ) * 2) * 1 + 0 * u = 8 * ((1 / SQ) * 2); grind)
    | k + 2 =>
      have ihk := ih k (by omega)
      obtain ⟨c, hc⟩ : ∃ c : Rat, ((k + 2 : Nat) : Rat) * c = 1 := ⟨1 / ((k + 2 : Nat) : Rat), Ex.mul_div _ 1 (Ex.nsucc_ne (k + 1))⟩
      have st := fun u : Rat => wT_step k (8 * u)
      refine dif_congr (dif_mul ihk (dif_sq (128 * c))) (fun u => ?_) (fun u => ?_)
      · show wT k (8 * u) * (128 * c * (u * u)) = wT (k + 2) (8 * u)
        have h := st u
        have e : wT k (8 * u) * (128 * c * (u * u)) = wT k (8 * u) * (8 * u * (8 * u) * 2) * c := by grind
        rw [e, ← h]
        have e2 : ((k + 2 : Nat) : Rat) * wT (k + 2) (8 * u) * c = ((k + 2 : Nat) : Rat) * c * wT (k + 2) (8 * u) := by grind
        rw [e2, hc, Rat.one_mul]
      · show wT k (8 * u) * (128 * c * (u + u)) + wD k u * (128 * c * (u * u)) = 128 * u * wT k (8 * u)
        match k with
        | 0 =>
          have e1 : wD 0 u = 0 := rfl
          have e2 : wT 0 (8 * u) = 1 := rfl
          have e3 : ((0 + 2 : Nat) : Rat) = 2 := rfl
          rw [e3] at hc
          rw [e1, e2]
          have : 1 * (128 * c * (u + u)) + 0 * (128 * c * (u * u)) = 128 * u * (2 * c) := by grind
          rw [this, hc]
        | 1 =>
          have e1 : wD 1 u = 8 * ((1 / SQ) * 2) := rfl
          have e2 : wT 1 (8 * u) = 8 * u * (1 / SQ) * 2 := rfl
          have e3 : ((1 + 2 : Nat) : Rat) = 3 := rfl
          rw [e3] at hc
          rw [e1, e2]
          generalize 1 / SQ = q
          have : 8 * u * q * 2 * (128 * c * (u + u)) + 8 * (q * 2) * (128 * c * (u * u)) = 2048 * (u * u) * q * (3 * c) := by grind
          rw [this, hc]; grind
        | j + 2 =>
          have e1 : wD (j + 2) u = 128 * u * wT j (8 * u) := rfl
          have h := wT_step j (8 * u)
          have e5 : ((j + 2 + 2 : Nat) : Rat) = ((j + 2 : Nat) : Rat) + 2 := by rw [Ex.castadd (j + 2) 2]; rfl
          rw [e5] at hc
          rw [e1]
          generalize wT (j + 2) (8 * u) = X at *
          generalize wT j (8 * u) = Y at *
          generalize ((j + 2 : Nat) : Rat) = z at *
          have a : X * (128 * c * (u + u)) + 128 * u * Y * (128 * c * (u * u)) = 128 * u * c * (2 * X + Y * (8 * u * (8 * u) * 2)) := by grind
          rw [a, ← h]
          have b : 128 * u * c * (2 * X + z * X) = 128 * u * X * ((z + 2) * c) := by grind
          rw [b, hc, Rat.mul_one]
theorem dif_wA (n : Nat) (hn : 1 ≤ n) : ∀ L, Dif (fun u => wA n (8 * u) (L + 1)) (fun u => wD n u + 128 * u * wA n (8 * u) L)
  | 0 => dif_congr (dif_wT n) (fun u => by show wT n (8 * u) = 0 + wT n (8 * u); grind) (fun u => by show wD n u = wD n u + 128 * u * 0; grind)
  | L + 1 => dif_congr (dif_add (dif_wA n hn L) (dif_wT (n + 2 * (L + 1)))) (fun u => rfl) (fun u => by
    show wD n u + 128 * u * wA n (8 * u) L + wD (n + 2 * (L + 1)) u = wD n u + 128 * u * (wA n (8 * u) L + wT (n + 2 * L) (8 * u))
    have : wD (n + 2 * (L + 1)) u = 128 * u * wT (n + 2 * L) (8 * u) := rfl
    rw [this]; grind)
def gM (j : Nat) (u : Rat) : Rat := Ex.tm (-64 * (u * u)) j
def gMs : Nat → Rat → Rat
  | 0, _ => 0
  | j + 1, u => -128 * u * gM j u
theorem dif_gM : ∀ j, Dif (gM j) (gMs j)
  | 0 => dif_const 1
  | j + 1 => by
    have ih := dif_gM j
    obtain ⟨c, hc⟩ : ∃ c : Rat, ((j + 1 : Nat) : Rat) * c = 1 := ⟨1 / ((j + 1 : Nat) : Rat), Ex.mul_div _ 1 (Ex.nsucc_ne j)⟩
    have st := fun (i : Nat) (u : Rat) => show ((i + 1 : Nat) : Rat) * gM (i + 1) u = -64 * (u * u) * gM i u from Ex.tm_succ _ i
    refine dif_congr (dif_mul ih (dif_sq (-64 * c))) (fun u => ?_) (fun u => ?_)
    · show gM j u * (-64 * c * (u * u)) = gM (j + 1) u
      have h := st j u
      have e : gM j u * (-64 * c * (u * u)) = -64 * (u * u) * gM j u * c := by grind
      rw [e, ← h]
      have e2 : ((j + 1 : Nat) : Rat) * gM (j + 1) u * c = ((j + 1 : Nat) : Rat) * c * gM (j + 1) u := by grind
      rw [e2, hc, Rat.one_mul]
    · show gM j u * (-64 * c * (u + u)) + gMs j u * (-64 * c * (u * u)) = -128 * u * gM j u
      cases j with
      | zero =>
        have e1 : gMs 0 u = 0 := rfl
        have e3 : ((0 + 1 : Nat) : Rat) = 1 := rfl
        rw [e3, Rat.one_mul] at hc
        rw [e1, hc]; grind
      | succ j =>
        have h := st j u
        have e1 : gMs (j + 1) u = -128 * u * gM j u := rfl
        have e5 : ((j + 1 + 1 : Nat) : Rat) = ((j + 1 : Nat) : Rat) + 1 := by rw [Ex.castadd (j + 1) 1]; rfl
        rw [e5] at hc
        rw [e1]
        have a : gM (j + 1) u * (-64 * c * (u + u)) + -128 * u * gM j u * (-64 * c * (u * u)) = -128 * u * c * (gM (j + 1) u + -64 * (u * u) * gM j u) := by grind
        rw [a, ← h]
        have b : -128 * u * c * (gM (j + 1) u + ((j + 1 : Nat) : Rat) * gM (j + 1) u) = -128 * u * gM (j + 1) u * ((((j + 1 : Nat) : Rat) + 1) * c) := by grind
        rw [b, hc, Rat.mul_one]
theorem dif_gE : ∀ L, Dif (fun u => Ex.E (-64 * (u * u)) (L + 1)) (fun u => -128 * u * Ex.E (-64 * (u * u)) L)
  | 0 => dif_congr (dif_gM 0) (fun u => by show gM 0 u = 0 + Ex.tm _ 0; rw [Rat.zero_add]; rfl) (fun u => by show (0 : Rat) = -128 * u * 0; grind)
  | L + 1 => dif_congr (dif_add (dif_gE L) (dif_gM (L + 1))) (fun u => rfl) (fun u => by
    show -128 * u * Ex.E (-64 * (u * u)) L + -128 * u * Ex.tm (-64 * (u * u)) L = -128 * u * (Ex.E (-64 * (u * u)) L + Ex.tm (-64 * (u * u)) L); grind)
theorem wT_pow (t : Rat) : ∀ m, wT m t = wT m 1 * t ^ m := by
  intro m
  induction m using Nat.strongRecOn with
  | _ m ih =>
    match m with
    | 0 => show (1 : Rat) = 1 * t ^ 0; rw [Rat.pow_zero, Rat.mul_one]
    | 1 => show t * (1 / SQ) * 2 = 1 * (1 / SQ) * 2 * t ^ 1; rw [Rat.pow_succ, Rat.pow_zero]; grind
    | k + 2 =>
      have i := ih k (by omega)
      have a := wT_step k t
      have b := wT_step k 1
      have c : (0 : Rat) < ((k + 2 : Nat) : Rat) := Ex.nsucc_pos (k + 1)
      refine Ex.cancel_l (show ((k + 2 : Nat) : Rat) ≠ 0 by grind) ?_
      rw [a, i, Rat.pow_succ, Rat.pow_succ]
      have e : ((k + 2 : Nat) : Rat) * (wT (k + 2) 1 * (t ^ k * t * t)) = ((k + 2 : Nat) : Rat) * wT (k + 2) 1 * (t ^ k * t * t) := by grind
      rw [e, b]; grind
theorem wT_pos : ∀ m, 0 < wT m 1 := by
  intro m
  induction m using Nat.strongRecOn with
  | _ m ih =>
    match m with
    | 0 => show (0 : Rat) < 1; decide
    | 1 =>
      have q := SQ_one.1
      have i : 0 < 1 / SQ := by rw [Rat.div_def, Rat.one_mul]; exact Rat.inv_pos.2 (by grind)
      show (0 : Rat) < 1 * (1 / SQ) * 2
      grind
    | k + 2 =>
      have i := ih k (by omega)
      have a := wT_step k 1
      have c : (0 : Rat) < ((k + 2 : Nat) : Rat) := Ex.nsucc_pos (k + 1)
      rcases Rat.le_total (a := wT (k + 2) 1) (b := 0) with g | g
      · have m := Rat.mul_le_mul_of_nonneg_left g (Rat.le_of_lt c)
        grind
      · by_cases e : wT (k + 2) 1 = 0
        · rw [e, Rat.mul_zero] at a; grind
        · grind
theorem wD_cross {n : Nat} (hn : 1 ≤ n) : ∃ c : Rat, 0 ≤ c ∧ (∀ u, 0 ≤ u → u ≤ c → wD (n + 1) u ≤ wD n u) ∧ (∀ u, c ≤ u → wD n u ≤ wD (n + 1) u) := by
  match n, hn with
  | 1, _ =>
    have q := SQ_one.1
    have i : 0 ≤ 1 / SQ := Ex.div_nn (by decide) (by grind)
    have e1 : ∀ u, wD 1 u = 8 * ((1 / SQ) * 2) := fun u => rfl
    have e2 : ∀ u, wD (1 + 1) u = 128 * u := fun u => by show 128 * u * 1 = _; grind
    have h8 : (1 / 8 : Rat) * 8 = 1 := by decide +kernel
    refine ⟨(1 / SQ) * (1 / 8), Rat.mul_nonneg i (by decide +kernel), fun u h0 h => ?_, fun u h => ?_⟩
    · rw [e1, e2]
      have k : (1 / SQ) * (1 / 8) * 8 = 1 / SQ := by rw [Rat.mul_assoc, h8, Rat.mul_one]
      clear e1 e2 q i h8
      generalize (1 / SQ) * (1 / 8) = o at *
      generalize 1 / SQ = q at *
      grind
    · rw [e1, e2]
      have k : (1 / SQ) * (1 / 8) * 8 = 1 / SQ := by rw [Rat.mul_assoc, h8, Rat.mul_one]
      clear e1 e2 q i h8
      generalize (1 / SQ) * (1 / 8) = o at *
      generalize 1 / SQ = q at *
      grind
  | m + 2, _ =>
    have p0 := wT_pos m
    have p1 := wT_pos (m + 1)
    have e1 : ∀ u, wD (m + 2) u = 128 * u * (wT m 1 * (8 * u) ^ m) := fun u => by rw [← wT_pow]; rfl
    have e2 : ∀ u, wD (m + 2 + 1) u = 128 * u * (wT (m + 1) 1 * ((8 * u) ^ m * (8 * u))) := fun u => by rw [← Rat.pow_succ, ← wT_pow]; rfl
    obtain ⟨c, hc⟩ : ∃ c : Rat, c * (8 * wT (m + 1) 1) = wT m 1 := ⟨wT m 1 / (8 * wT (m + 1) 1), Rat.div_mul_cancel (by grind)⟩
    have c0 : 0 ≤ c := by
      refine le_by (show 0 < 8 * wT (m + 1) 1 by grind) ?_
      rw [hc, Rat.zero_mul]; exact Rat.le_of_lt p0
    refine ⟨c, c0, fun u h0 h => ?_, fun u h => ?_⟩
    · have k : wT (m + 1) 1 * (8 * u) ≤ wT m 1 := by
        rw [← hc]
        have := Rat.mul_le_mul_of_nonneg_right h (show 0 ≤ 8 * wT (m + 1) 1 by grind)
        grind
      rw [e1, e2]
      have pw := Ex.pow_nn (show 0 ≤ 8 * u by grind) m
      have := Rat.mul_le_mul_of_nonneg_right k (Rat.mul_nonneg (show 0 ≤ 128 * u by grind) pw)
      grind
    · have h0 : 0 ≤ u := Rat.le_trans c0 h
      have k : wT m 1 ≤ wT (m + 1) 1 * (8 * u) := by
        rw [← hc]
        have := Rat.mul_le_mul_of_nonneg_right h (show 0 ≤ 8 * wT (m + 1) 1 by grind)
        grind
      rw [e1, e2]
      have pw := Ex.pow_nn (show 0 ≤ 8 * u by grind) m
      have := Rat.mul_le_mul_of_nonneg_right k (Rat.mul_nonneg (show 0 ≤ 128 * u by grind) pw)
      grind
end Go.Proofs.YtemnjalaincijaaGreat
namespace Go.Proofs.YtemnjalaincijaaGreat
open Go.Ev
theorem evX_inv {q : Rat} {L : Nat} (h : 0 ≤ q) (hL : 1 ≤ L) : evX (-q) L = 1 / Ex.E q L := by
  unfold evX
  by_cases g : -q < 0
  · rw [if_pos g, Rat.neg_neg]
  · have q0 : q = 0 := by grind
    subst q0
    rw [if_neg g]
    obtain ⟨k, rfl⟩ : ∃ k, L = k + 1 := ⟨L - 1, by omega⟩
    rw [Rat.neg_zero, Ex.E_zero]; decide +kernel
theorem inv_bds {y : Rat} {L : Nat} (y0 : 0 ≤ y) (y64 : y ≤ 64) (hL : 1 ≤ L) : 1 / Ex.t2 102 ≤ 1 / Ex.E y L ∧ 1 / Ex.E y L ≤ 1 := by
  have one := E_one y0 hL
  have big := E_big y0 y64 L
  have K := Ex.t2_pos 102
  have i1 : Ex.E y L * (1 / Ex.E y L) = 1 := Ex.mul_div _ 1 (by grind)
  have i2 : Ex.t2 102 * (1 / Ex.t2 102) = 1 := Ex.mul_div _ 1 (by grind)
  have p1 : 0 ≤ 1 / Ex.E y L := Ex.div_nn (by decide) (by grind)
  have p2 : 0 ≤ 1 / Ex.t2 102 := Ex.div_nn (by decide) K
  have r1 := Rat.mul_le_mul_of_nonneg_right one p1
  have r2 := Rat.mul_le_mul_of_nonneg_right big (Rat.mul_nonneg p1 p2)
  have k1 : Ex.E y L * (1 / Ex.E y L * (1 / Ex.t2 102)) = 1 / Ex.t2 102 := by rw [← Rat.mul_assoc, i1, Rat.one_mul]
  have k2 : Ex.t2 102 * (1 / Ex.E y L * (1 / Ex.t2 102)) = 1 / Ex.E y L := by
    have : Ex.t2 102 * (1 / Ex.E y L * (1 / Ex.t2 102)) = 1 / Ex.E y L * (Ex.t2 102 * (1 / Ex.t2 102)) := by grind
    rw [this, i2, Rat.mul_one]
  rw [k1, k2] at r2
  rw [i1, Rat.one_mul] at r1
  exact ⟨r2, r1⟩
theorem fall_near {u e : Rat} {L n : Nat} (h0 : 0 ≤ u) (h1 : u ≤ 1) (hL : 1 ≤ L) (hm : ∀ m, L ≤ m → 2 * Ex.tm 128 m ≤ e) (hL2 : (128 : Rat) + 128 ≤ ((L + 1 : Nat) : Rat)) :
    Ex.Bdd (Ex.E (-64 * (u * u)) L - 1 / Ex.E (64 * (u * u)) L) e ∧ Ex.Bdd (gM L u) e ∧ 0 ≤ wT (n + 2 * L) (8 * u) ∧ wT (n + 2 * L) (8 * u) ≤ 8 * e ∧ 0 ≤ wA n (8 * u) L ∧ wA n (8 * u) L ≤ 16 * Ex.t2 102 ∧ 1 / Ex.t2 102 ≤ 1 / Ex.E (64 * (u * u)) L ∧ 1 / Ex.E (64 * (u * u)) L ≤ 1 := by
  obtain ⟨q0, q1⟩ := sq_unit h0 h1
  have y0 : 0 ≤ 64 * (u * u) := by grind
  have y64 : 64 * (u * u) ≤ 64 := by grind
  have n64 : -(64 * (u * u)) = -64 * (u * u) := by grind
  have tt : 8 * u * (8 * u) = 64 * (u * u) := by grind
  have a := E_inv y0 hL (show (64 * (u * u) + 64 * (u * u)) + (64 * (u * u) + 64 * (u * u)) ≤ _ from Rat.le_trans (by grind) hL2)
  have m128 := Ex.tm_mono (x := 64 * (u * u) + 64 * (u * u)) (y := 128) (by grind) (by grind) L
  have m64 := Ex.tm_mono (x := 64 * (u * u)) (y := 128) (by grind) (by grind) L
  have m64' := Ex.tm_mono (x := 64 * (u * u)) (y := 128) (by grind) (by grind) (n / 2 + L)
  have hm1 := hm L (Nat.le_refl _)
  have hm2 := hm (n / 2 + L) (by omega)
  have t0 := Ex.tm_nn (x := 128) (by decide) L
  have b := tm_negB y0 L
  rw [n64] at a b
  obtain ⟨w1, w2⟩ := wT_one (n + 2 * L) (8 * u) (by grind) (by grind)
  obtain ⟨x1, x2⟩ := wA_le n (8 * u) (by grind) (by grind) L
  rw [show (n + 2 * L) / 2 = n / 2 + L by omega, tt] at w2
  rw [tt] at x2
  have big := E_big y0 y64 (n / 2 + L)
  have nn := Ex.E_nn y0 (n / 2)
  obtain ⟨i1, i2⟩ := inv_bds y0 y64 hL
  exact ⟨Ex.Bdd_mono a (by grind), Ex.Bdd_mono b (by grind), w1, by grind, x1, by grind, i1, i2⟩
theorem fall_rest {u e K A M T B A' T' : Rat} (h0 : 0 ≤ u) (h1 : u ≤ 1) (K1 : 1 ≤ K) (he : 0 ≤ e) (hA0 : 0 ≤ A) (hA : A ≤ 16 * K) (hM : Ex.Bdd M e) (hT0 : 0 ≤ T) (hT : T ≤ 8 * e) (hB : Ex.Bdd B 2) (hA0' : 0 ≤ A') (hA' : A' ≤ 16 * K) (hT0' : 0 ≤ T') (hT' : T' ≤ 8 * e) :
    Ex.Bdd (128 * u * ((A * M - T * B) - (A' * M - T' * B))) (8192 * (K * e)) := by
  have eK : e ≤ K * e := by
    have := Rat.mul_le_mul_of_nonneg_right K1 he
    rw [Rat.one_mul] at this; exact this
  have b1 := Ex.Bdd_mul (show Ex.Bdd A (16 * K) from ⟨by grind, hA⟩) hM
  have b2 := Ex.Bdd_mul (show Ex.Bdd T (8 * e) from ⟨by grind, hT⟩) hB
  have c1 := Ex.Bdd_mul (show Ex.Bdd A' (16 * K) from ⟨by grind, hA'⟩) hM
  have c2 := Ex.Bdd_mul (show Ex.Bdd T' (8 * e) from ⟨by grind, hT'⟩) hB
  have b3 := Ex.Bdd_mul (show Ex.Bdd (128 * u) 128 from ⟨by grind, by grind⟩) (Ex.Bdd_sub (Ex.Bdd_sub b1 b2) (Ex.Bdd_sub c1 c2))
  refine Ex.Bdd_mono b3 ?_
  have g : 16 * K * e = 16 * (K * e) := by grind
  rw [g]
  generalize K * e = Z at *
  grind
theorem slope_split (d1 d2 A T B M A' T' u : Rat) : (A + T) * (-128 * u * B) + (d1 + 128 * u * A) * (B + M) - ((A' + T') * (-128 * u * B) + (d2 + 128 * u * A') * (B + M)) = (d1 - d2) * (B + M) + 128 * u * ((A * M - T * B) - (A' * M - T' * B)) := by grind
set_option maxHeartbeats 1000000 in
theorem falls_core {n : Nat} (hn : 1 ≤ n) {e : Rat} (he : 0 < e) (hnum : ∃ N, ∀ L, N ≤ L → igV (n + 1) 8 (8 * 8) L ≤ igV n 8 (8 * 8) L) :
    ∃ N : Nat, ∀ L, N ≤ L → ∀ t : Rat, 0 ≤ t → t ≤ 8 → igV (n + 1) t (t * t) L ≤ igV n t (t * t) L + e := by
  obtain ⟨K, hK⟩ : ∃ K : Rat, K = Ex.t2 102 := ⟨_, rfl⟩
  have K1 : 1 ≤ K := by rw [hK]; exact Ex.castle (show 1 ≤ 2 ^ 102 by decide +kernel)
  have Kp : 0 < K := by grind
  obtain ⟨d, hd0, hd1, hd2⟩ : ∃ d : Rat, 0 < d ∧ K * d ≤ 1 ∧ 10000 * (K * d) ≤ e := by
    have E0 : 0 < 10000 * K / e := by rw [Rat.div_def]; exact Rat.mul_pos (by grind) (Rat.inv_pos.2 he)
    have ee : 10000 * K / e * e = 10000 * K := Rat.div_mul_cancel (by grind)
    obtain ⟨D, hD⟩ : ∃ D, D = K + 10000 * K / e := ⟨_, rfl⟩
    have Dp : 0 < D := by rw [hD]; grind
    have i : D * (1 / D) = 1 := Ex.mul_div _ 1 (by grind)
    have ip : 0 < 1 / D := by rw [Rat.div_def, Rat.one_mul]; exact Rat.inv_pos.2 Dp
    refine ⟨1 / D, ip, ?_, ?_⟩
    · have := Rat.mul_le_mul_of_nonneg_right (show K ≤ D by rw [hD]; grind) (Rat.le_of_lt ip)
      rw [i] at this; exact this
    · have m := Rat.mul_le_mul_of_nonneg_right (show 10000 * K / e ≤ D by rw [hD]; grind) (Rat.le_of_lt ip)
      rw [i] at m
      have m2 := Rat.mul_le_mul_of_nonneg_right m (Rat.le_of_lt he)
      have q : 10000 * K / e * (1 / D) * e = 10000 * (K * (1 / D)) := by
        have : 10000 * K / e * (1 / D) * e = 10000 * K / e * e * (1 / D) := by grind
        rw [this, ee]; grind
      rw [q, Rat.one_mul] at m2; exact m2
  obtain ⟨N, hN⟩ := Ex.tm_small (y := 128) (by decide) hd0
  obtain ⟨N2, hN2⟩ := hnum
  obtain ⟨c, c0, c1, c2⟩ := wD_cross hn
  have d1 : d ≤ 1 := by
    have := Rat.mul_le_mul_of_nonneg_right K1 (Rat.le_of_lt hd0)
    grind
  refine ⟨N + N2 + 2, fun L hL t t0 t8 => ?_⟩
  obtain ⟨u, hu⟩ : ∃ u : Rat, t = 8 * u := ⟨t / 8, by rw [Ex.mul_div _ _ (by decide)]⟩
  have u0 : 0 ≤ u := by grind
  have u1 : u ≤ 1 := by grind
  obtain ⟨k, rfl⟩ : ∃ k, L = k + 1 := ⟨L - 1, by omega⟩
  have near := fun (m n : Nat) (hm : N + 1 ≤ m) (v : Rat) (v0 : 0 ≤ v) (v1 : v ≤ 1) => fall_near (u := v) (e := d) (L := m) (n := n) v0 v1 (by omega) (fun j hj => (hN j (by omega)).2) (hN m (by omega)).1
  obtain ⟨F, hF⟩ : ∃ F : Nat → Rat → Rat, F = fun n v => wA n (8 * v) (k + 1) * Ex.E (-64 * (v * v)) (k + 1) := ⟨_, rfl⟩
  obtain ⟨S, hS⟩ : ∃ S : Nat → Rat → Rat, S = fun n v => wA n (8 * v) (k + 1) * (-128 * v * Ex.E (-64 * (v * v)) k) + (wD n v + 128 * v * wA n (8 * v) k) * Ex.E (-64 * (v * v)) (k + 1) := ⟨_, rfl⟩
  have dF : ∀ n, 1 ≤ n → Dif (F n) (S n) := fun n hn => by rw [hF, hS]; exact dif_mul (dif_wA n hn k) (dif_gE k)
  have sl : ∀ v, 0 ≤ v → v ≤ 1 → ∃ X B1 : Rat, S n v - S (n + 1) v = (wD n v - wD (n + 1) v) * B1 + X ∧ Ex.Bdd X (8192 * (K * d)) ∧ 0 ≤ B1 := by
    intro v v0 v1
    obtain ⟨n1, n2, n3, n4, n5, n6, n7, n8⟩ := near k n (by omega) v v0 v1
    obtain ⟨-, -, m3, m4, m5, m6, -, -⟩ := near k (n + 1) (by omega) v v0 v1
    obtain ⟨g1, -, -, -, -, -, g7, -⟩ := near (k + 1) n (by omega) v v0 v1
    rw [← hK] at n6 m6 n7 g7
    have iK : K * (1 / K) = 1 := Ex.mul_div _ 1 (by grind)
    have pK : d ≤ 1 / K := by
      refine le_by Kp ?_
      rw [Rat.mul_comm (1 / K), iK, Rat.mul_comm]; exact hd1
    have hB : Ex.Bdd (Ex.E (-64 * (v * v)) k) 2 := by
      obtain ⟨a, b⟩ := n1
      have p : 0 ≤ 1 / Ex.E (64 * (v * v)) k := Rat.le_trans (Ex.div_nn (by decide) Kp) n7
      constructor <;> grind
    have r := fall_rest (u := v) (e := d) (K := K) (A := wA n (8 * v) k) (M := gM k v) (T := wT (n + 2 * k) (8 * v)) (B := Ex.E (-64 * (v * v)) k) (A' := wA (n + 1) (8 * v) k) (T' := wT (n + 1 + 2 * k) (8 * v)) v0 v1 K1 (Rat.le_of_lt hd0) n5 n6 n2 n3 n4 hB m5 m6 m3 m4
    refine ⟨_, Ex.E (-64 * (v * v)) (k + 1), ?_, r, ?_⟩
    · rw [hS]
      exact slope_split (wD n v) (wD (n + 1) v) (wA n (8 * v) k) (wT (n + 2 * k) (8 * v)) (Ex.E (-64 * (v * v)) k) (gM k v) (wA (n + 1) (8 * v) k) (wT (n + 1 + 2 * k) (8 * v)) v
    · obtain ⟨a, b⟩ := g1
      grind
  have val : ∀ (n : Nat) (v : Rat), 0 ≤ v → v ≤ 1 → Ex.Bdd (igV n (8 * v) (8 * v * (8 * v)) (k + 1) - F n v) (16 * (K * d)) := by
    intro n v v0 v1
    obtain ⟨g1, g2, g3, g4, g5, g6, g7, g8⟩ := near (k + 1) n (by omega) v v0 v1
    obtain ⟨q0, -⟩ := sq_unit v0 v1
    rw [igV_sq, show 8 * v * (8 * v) = 64 * (v * v) by grind, evX_inv (by grind) (by omega), hF]
    have b := Ex.Bdd_mul (show Ex.Bdd (wA n (8 * v) (k + 1)) (16 * K) from ⟨by grind, by rw [hK]; exact g6⟩) g1
    obtain ⟨b1, b2⟩ := b
    show Ex.Bdd (wA n (8 * v) (k + 1) * (1 / Ex.E (64 * (v * v)) (k + 1)) - wA n (8 * v) (k + 1) * Ex.E (-64 * (v * v)) (k + 1)) (16 * (K * d))
    constructor <;> grind
  have zero : ∀ n, 1 ≤ n → F n 0 = 0 := by
    intro n hn
    have e : wT n (8 * 0) = 0 := by
      rw [wT_pow, Rat.mul_zero]
      obtain ⟨j, rfl⟩ : ∃ j, n = j + 1 := ⟨n - 1, by omega⟩
      rw [Rat.pow_succ, Rat.mul_zero, Rat.mul_zero]
    rw [hF]
    show wA n (8 * 0) (k + 1) * _ = 0
    rw [wA_is, e, Rat.zero_mul, Rat.zero_mul]
  obtain ⟨H, hH⟩ : ∃ H : Rat, H = 8192 * (K * d) := ⟨_, rfl⟩
  have Kd0 : 0 ≤ K * d := Rat.mul_nonneg (Rat.le_of_lt Kp) (Rat.le_of_lt hd0)
  have H0 : 0 ≤ H := by rw [hH]; grind
  have key : F (n + 1) u ≤ F n u + H + 32 * (K * d) := by
    rcases Rat.le_total (a := u) (b := c) with g | g
    · have f := dif_mono (dif_add (dif_add (dF n hn) (dif_mul (dif_const (-1)) (dF (n + 1) (by omega)))) (dif_mul (dif_const H) dif_id)) (x := 0) (y := u) Rat.le_refl u0 u1 (fun v v0 vu => by
        obtain ⟨X, B1, x1, x2, x3⟩ := sl v v0 (by grind)
        have w := c1 v v0 (by grind)
        have p := Rat.mul_nonneg (show 0 ≤ wD n v - wD (n + 1) v by grind) x3
        obtain ⟨x4, x5⟩ := x2
        rw [← hH] at x4
        show 0 ≤ S n v + (-1 * S (n + 1) v + 0 * F (n + 1) v) + (H * 1 + 0 * v)
        grind)
      have f' : F n 0 + -1 * F (n + 1) 0 + H * 0 ≤ F n u + -1 * F (n + 1) u + H * u := f
      rw [zero n hn, zero (n + 1) (by omega)] at f'
      have hu := Rat.mul_le_mul_of_nonneg_left u1 H0
      grind
    · have f := dif_mono (dif_add (dif_add (dF (n + 1) (by omega)) (dif_mul (dif_const (-1)) (dF n hn))) (dif_mul (dif_const H) dif_id)) (x := u) (y := 1) u0 u1 Rat.le_refl (fun v vu v1 => by
        obtain ⟨X, B1, x1, x2, x3⟩ := sl v (by grind) v1
        have w := c2 v (by grind)
        have p := Rat.mul_nonneg (show 0 ≤ wD (n + 1) v - wD n v by grind) x3
        obtain ⟨x4, x5⟩ := x2
        rw [← hH] at x5
        show 0 ≤ S (n + 1) v + (-1 * S n v + 0 * F n v) + (H * 1 + 0 * v)
        grind)
      have f' : F (n + 1) u + -1 * F n u + H * u ≤ F (n + 1) 1 + -1 * F n 1 + H * 1 := f
      have hu := Rat.mul_nonneg H0 u0
      have a := hN2 (k + 1) (by omega)
      obtain ⟨v1, v2⟩ := val n 1 (by decide) (by decide)
      obtain ⟨w1, w2⟩ := val (n + 1) 1 (by decide) (by decide)
      rw [show (8 : Rat) * 1 = 8 by decide +kernel] at v1 v2 w1 w2
      generalize igV n 8 (8 * 8) (k + 1) = G1 at *
      generalize igV (n + 1) 8 (8 * 8) (k + 1) = G2 at *
      clear dF sl val zero near hN hN2 c1 c2
      grind
  obtain ⟨v1, v2⟩ := val n u u0 u1
  obtain ⟨w1, w2⟩ := val (n + 1) u u0 u1
  rw [← hu] at v1 v2 w1 w2
  generalize igV n t (t * t) (k + 1) = G1 at *
  generalize igV (n + 1) t (t * t) (k + 1) = G2 at *
  clear dF sl val zero near hN hN2 c1 c2
  grind
end Go.Proofs.YtemnjalaincijaaGreat
namespace Go.Proofs.YtemnjalaincijaaGreat
open Go.Ev
theorem tk_join (y : Rat) (k0 m : Nat) : ∀ j, tk y k0 m * tk y (k0 + 2 * m) j = tk y k0 (m + j)
  | 0 => by show tk y k0 m * 1 = _; rw [Rat.mul_one]; rfl
  | j + 1 => by
    have ih := tk_join y k0 m j
    show tk y k0 m * (tk y (k0 + 2 * m) j * y * ((1 : Nat) : Rat) / ((k0 + 2 * m + 2 * j : Nat) : Rat)) = tk y k0 (m + j) * y * ((1 : Nat) : Rat) / ((k0 + 2 * (m + j) : Nat) : Rat)
    rw [← ih, show k0 + 2 * m + 2 * j = k0 + 2 * (m + j) by omega, Rat.div_def, Rat.div_def]; grind
theorem sk_join (y : Rat) (k0 m : Nat) : ∀ L, tk y k0 m * sk y (k0 + 2 * m) L = sk y k0 (m + L) - sk y k0 m
  | 0 => by show tk y k0 m * 0 = sk y k0 m - sk y k0 m; rw [Rat.mul_zero, Rat.sub_self]
  | L + 1 => by
    have ih := sk_join y k0 m L
    have j := tk_join y k0 m L
    show tk y k0 m * (sk y (k0 + 2 * m) L + tk y (k0 + 2 * m) L) = sk y k0 (m + L) + tk y k0 (m + L) - sk y k0 m
    rw [Rat.mul_add, ih, j]; grind
theorem tk_tm (x : Rat) : ∀ j, tk (x * 2) 2 j = Ex.tm x j
  | 0 => rfl
  | j + 1 => by
    have ih := tk_tm x j
    have s := tk_step (y := x * 2) (k0 := 2) (by omega) j
    have s2 := Ex.tm_succ x j
    rw [ih] at s
    have c : ((j + 1 : Nat) : Rat) ≠ 0 := Ex.nsucc_ne j
    have e : ((2 + 2 * j : Nat) : Rat) = 2 * ((j + 1 : Nat) : Rat) := by rw [show 2 + 2 * j = 2 * (j + 1) by omega, Ex.castmul]; rfl
    rw [e] at s
    refine Ex.cancel_l c ?_
    rw [s2]; grind
theorem sk_E (x : Rat) : ∀ L, sk (x * 2) 2 L = Ex.E x L
  | 0 => rfl
  | L + 1 => by show sk (x * 2) 2 L + tk (x * 2) 2 L = Ex.E x L + Ex.tm x L; rw [sk_E x L, tk_tm]
theorem igV_even {n : Nat} (h : n % 2 = 0) {s x : Rat} (hx : 0 ≤ x) {L : Nat} (hL : 1 ≤ L) : igV n s x L = (Ex.E x (n / 2 + L) - Ex.E x (n / 2)) * (1 / Ex.E x L) := by
  unfold igV
  rw [show igC n s = 1 from if_neg (by omega), h, Rat.one_mul, Rat.one_mul, evX_inv hx hL]
  have j := sk_join (x * 2) 2 (n / 2) L
  rw [sk_E, sk_E, show 2 + 2 * (n / 2) = n + 2 by omega] at j
  rw [← j]
theorem tm_ratio {x y : Rat} (hx : 0 ≤ x) (hxy : x ≤ y) (m : Nat) : ∀ j, Ex.tm y m * Ex.tm x (m + j) ≤ Ex.tm x m * Ex.tm y (m + j)
  | 0 => by rw [Nat.add_zero, Rat.mul_comm]; exact Rat.le_refl
  | j + 1 => by
    have ih := tm_ratio hx hxy m j
    have c : (0 : Rat) < ((m + j + 1 : Nat) : Rat) := Ex.nsucc_pos (m + j)
    have s1 := Ex.tm_succ x (m + j)
    have s2 := Ex.tm_succ y (m + j)
    refine le_by c ?_
    show Ex.tm y m * Ex.tm x (m + j + 1) * _ ≤ Ex.tm x m * Ex.tm y (m + j + 1) * _
    have e1 : Ex.tm y m * Ex.tm x (m + j + 1) * ((m + j + 1 : Nat) : Rat) = x * (Ex.tm y m * Ex.tm x (m + j)) := by
      have : Ex.tm y m * Ex.tm x (m + j + 1) * ((m + j + 1 : Nat) : Rat) = Ex.tm y m * (((m + j + 1 : Nat) : Rat) * Ex.tm x (m + j + 1)) := by grind
      rw [this, s1]; grind
    have e2 : Ex.tm x m * Ex.tm y (m + j + 1) * ((m + j + 1 : Nat) : Rat) = y * (Ex.tm x m * Ex.tm y (m + j)) := by
      have : Ex.tm x m * Ex.tm y (m + j + 1) * ((m + j + 1 : Nat) : Rat) = Ex.tm x m * (((m + j + 1 : Nat) : Rat) * Ex.tm y (m + j + 1)) := by grind
      rw [this, s2]; grind
    rw [e1, e2]
    have y0 : 0 ≤ y := Rat.le_trans hx hxy
    exact mul_le hxy ih y0 (Rat.mul_nonneg (Ex.tm_nn y0 _) (Ex.tm_nn hx _))
theorem E_tm_ratio {x y : Rat} (hx : 0 ≤ x) (hxy : x ≤ y) (L : Nat) : ∀ m, m ≤ L → Ex.E y m * Ex.tm x L ≤ Ex.E x m * Ex.tm y L
  | 0, _ => by show (0 : Rat) * _ ≤ 0 * _; rw [Rat.zero_mul, Rat.zero_mul]; exact Rat.le_refl
  | m + 1, h => by
    have ih := E_tm_ratio hx hxy L m (by omega)
    have r := tm_ratio hx hxy m (L - m)
    rw [show m + (L - m) = L by omega] at r
    show (Ex.E y m + Ex.tm y m) * _ ≤ (Ex.E x m + Ex.tm x m) * _
    rw [Rat.add_mul, Rat.add_mul]; grind
theorem E_ratio {x y : Rat} (hx : 0 ≤ x) (hxy : x ≤ y) (m : Nat) : ∀ j, Ex.E y m * Ex.E x (m + j) ≤ Ex.E x m * Ex.E y (m + j)
  | 0 => by rw [Nat.add_zero, Rat.mul_comm]; exact Rat.le_refl
  | j + 1 => by
    have ih := E_ratio hx hxy m j
    have r := E_tm_ratio hx hxy (m + j) m (by omega)
    show Ex.E y m * (Ex.E x (m + j) + Ex.tm x (m + j)) ≤ Ex.E x m * (Ex.E y (m + j) + Ex.tm y (m + j))
    rw [Rat.mul_add, Rat.mul_add]; grind
theorem even_rises {n : Nat} (h : n % 2 = 0) {e : Rat} (he : 0 < e) : ∃ N, ∀ L, N ≤ L → ∀ x y s s' : Rat, 0 ≤ x → x ≤ y → y ≤ 64 → igV n s x L ≤ igV n s' y L + e := by
  obtain ⟨N, hN⟩ := Ex.tm_small (y := 64) (by decide) he
  refine ⟨N + n + 1, fun L hL x y s s' hx hxy hy => ?_⟩
  obtain ⟨n1, n2⟩ := hN L (by omega)
  have y0 : 0 ≤ y := Rat.le_trans hx hxy
  rw [igV_even h hx (by omega), igV_even h y0 (by omega)]
  have ox := E_one hx (show 1 ≤ L by omega)
  have oy := E_one y0 (show 1 ≤ L by omega)
  have i1 : Ex.E x L * (1 / Ex.E x L) = 1 := Ex.mul_div _ 1 (by grind)
  have i2 : Ex.E y L * (1 / Ex.E y L) = 1 := Ex.mul_div _ 1 (by grind)
  have p1 : 0 ≤ 1 / Ex.E x L := Ex.div_nn (by decide) (by grind)
  have p2 : 0 ≤ 1 / Ex.E y L := Ex.div_nn (by decide) (by grind)
  have q1 : 1 / Ex.E x L ≤ 1 := by
    have := Rat.mul_le_mul_of_nonneg_right ox p1
    rw [i1, Rat.one_mul] at this; exact this
  have tail := Ex.E_tail_le (L := n / 2 + L) hx (N := L) (Rat.le_trans (by grind) n1)
  have tx := Ex.tm_mono hx (show x ≤ 64 by grind) L
  have up := Ex.E_mono y0 (show L ≤ n / 2 + L by omega)
  have r := E_ratio hx hxy (n / 2) (L - n / 2)
  rw [show n / 2 + (L - n / 2) = L by omega] at r
  generalize 1 / Ex.E x L = ix at *
  generalize 1 / Ex.E y L = iy at *
  have k := Rat.mul_le_mul_of_nonneg_right r (Rat.mul_nonneg p1 p2)
  have k1 : Ex.E y (n / 2) * Ex.E x L * (ix * iy) = Ex.E y (n / 2) * iy := by
    have : Ex.E y (n / 2) * Ex.E x L * (ix * iy) = Ex.E y (n / 2) * iy * (Ex.E x L * ix) := by grind
    rw [this, i1, Rat.mul_one]
  have k2 : Ex.E x (n / 2) * Ex.E y L * (ix * iy) = Ex.E x (n / 2) * ix := by
    have : Ex.E x (n / 2) * Ex.E y L * (ix * iy) = Ex.E x (n / 2) * ix * (Ex.E y L * iy) := by grind
    rw [this, i2, Rat.mul_one]
  rw [k1, k2] at k
  have t0 := Ex.tm_nn hx L
  have a1 := Rat.mul_le_mul_of_nonneg_right (show Ex.E x (n / 2 + L) - Ex.E x L ≤ e by grind) p1
  have a2 := Rat.mul_le_mul_of_nonneg_left q1 (Rat.le_of_lt he)
  have a3 := Rat.mul_le_mul_of_nonneg_right up p2
  rw [Rat.sub_eq_add_neg, Rat.sub_eq_add_neg, Rat.add_mul, Rat.add_mul]
  have b1 : (Ex.E x (n / 2 + L) - Ex.E x L) * ix = Ex.E x (n / 2 + L) * ix - Ex.E x L * ix := by grind
  have b2 : -Ex.E x (n / 2) * ix = -(Ex.E x (n / 2) * ix) := by grind
  have b3 : -Ex.E y (n / 2) * iy = -(Ex.E y (n / 2) * iy) := by grind
  rw [b1, i1] at a1
  rw [i2] at a3
  rw [b2, b3]
  clear r up tail b1 b2 b3 k1 k2
  grind
theorem tk2_le {y : Rat} (h : 0 ≤ y) : ∀ j, tk (y * 2) 3 j ≤ Ex.tm y j
  | 0 => Rat.le_refl
  | j + 1 => by
    have ih := tk2_le h j
    have s1 := tk_step (y := y * 2) (k0 := 3) (by omega) j
    have s2 := Ex.tm_succ y j
    have n1 := tk_nn (k0 := 3) (by omega) (show 0 ≤ y * 2 by grind) (j + 1)
    have c : ((2 * (j + 1) : Nat) : Rat) ≤ ((3 + 2 * j : Nat) : Rat) := Ex.castle (by omega)
    rw [Ex.castmul, show ((2 : Nat) : Rat) = 2 from rfl] at c
    have p : (0 : Rat) < ((j + 1 : Nat) : Rat) := Ex.nsucc_pos j
    refine le_by p ?_
    have m := Rat.mul_le_mul_of_nonneg_right c n1
    have m2 := Rat.mul_le_mul_of_nonneg_right ih h
    generalize ((j + 1 : Nat) : Rat) = z at *
    generalize ((3 + 2 * j : Nat) : Rat) = w at *
    grind
theorem sk2_le {y : Rat} (h : 0 ≤ y) : ∀ L, sk (y * 2) 3 L ≤ Ex.E y L
  | 0 => Rat.le_refl
  | L + 1 => by
    have ih := sk2_le h L
    have := tk2_le h L
    show sk (y * 2) 3 L + tk (y * 2) 3 L ≤ Ex.E y L + Ex.tm y L
    grind
theorem tk_mono3 {a b : Rat} (ha : 0 ≤ a) (hab : a ≤ b) : ∀ j, tk a 3 j ≤ tk b 3 j
  | 0 => Rat.le_refl
  | j + 1 => by
    have ih := tk_mono3 ha hab j
    have b0 : 0 ≤ b := Rat.le_trans ha hab
    have c : (0 : Rat) < ((3 + 2 * j : Nat) : Rat) := Ex.castlt (a := 0) (by omega)
    have s1 := tk_step (y := a) (k0 := 3) (by omega) j
    have s2 := tk_step (y := b) (k0 := 3) (by omega) j
    refine le_by c ?_
    rw [Rat.mul_comm (tk a 3 (j + 1)), s1, Rat.mul_comm (tk b 3 (j + 1)), s2]
    exact mul_le ih hab (tk_nn (by omega) b0 j) ha
theorem tk_lip {a b : Rat} (ha : 0 ≤ a) (hab : a ≤ b) : ∀ j, tk b 3 (j + 1) - tk a 3 (j + 1) ≤ (b - a) * tk b 3 j
  | 0 => by
    have s1 := tk_step (y := a) (k0 := 3) (by omega) 0
    have s2 := tk_step (y := b) (k0 := 3) (by omega) 0
    have e : ((3 + 2 * 0 : Nat) : Rat) = 3 := rfl
    have o : ∀ y, tk y 3 0 = 1 := fun y => rfl
    rw [e, o] at s1 s2
    rw [o]; grind
  | j + 1 => by
    have ih := tk_lip ha hab j
    have b0 : 0 ≤ b := Rat.le_trans ha hab
    have c : (0 : Rat) < ((3 + 2 * (j + 1) : Nat) : Rat) := Ex.castlt (a := 0) (by omega)
    have s1 := tk_step (y := a) (k0 := 3) (by omega) (j + 1)
    have s2 := tk_step (y := b) (k0 := 3) (by omega) (j + 1)
    have s3 := tk_step (y := b) (k0 := 3) (by omega) j
    have m := tk_mono3 ha hab (j + 1)
    have nb := tk_nn (k0 := 3) (by omega) b0 (j + 1)
    have e : ((3 + 2 * (j + 1) : Nat) : Rat) = ((3 + 2 * j : Nat) : Rat) + 2 := by rw [show 3 + 2 * (j + 1) = 3 + 2 * j + 2 by omega, Ex.castadd (3 + 2 * j) 2]; rfl
    refine le_by c ?_
    have m1 := Rat.mul_le_mul_of_nonneg_right ih b0
    have m2 := Rat.mul_le_mul_of_nonneg_right m (show 0 ≤ b - a by grind)
    have l : (tk b 3 (j + 1 + 1) - tk a 3 (j + 1 + 1)) * ((3 + 2 * (j + 1) : Nat) : Rat) = tk b 3 (j + 1) * b - tk a 3 (j + 1) * a := by rw [← s1, ← s2]; grind
    rw [l, e]
    have z : (b - a) * tk b 3 j * b = (b - a) * (((3 + 2 * j : Nat) : Rat) * tk b 3 (j + 1)) := by rw [s3]; grind
    rw [z] at m1
    have p := Rat.mul_nonneg (show 0 ≤ b - a by grind) nb
    generalize ((3 + 2 * j : Nat) : Rat) = w at *
    clear s1 s2 s3 l z c
    grind
theorem sk_lip {a b : Rat} (ha : 0 ≤ a) (hab : a ≤ b) : ∀ M, sk b 3 (M + 1) - sk a 3 (M + 1) ≤ (b - a) * sk b 3 M
  | 0 => by show 0 + 1 - (0 + 1) ≤ (b - a) * 0; rw [Rat.mul_zero]; decide +kernel
  | M + 1 => by
    have ih := sk_lip ha hab M
    have l := tk_lip ha hab M
    show sk b 3 (M + 1) + tk b 3 (M + 1) - (sk a 3 (M + 1) + tk a 3 (M + 1)) ≤ (b - a) * (sk b 3 M + tk b 3 M)
    grind
theorem sk_mono3 {a b : Rat} (ha : 0 ≤ a) (hab : a ≤ b) : ∀ j, sk a 3 j ≤ sk b 3 j
  | 0 => Rat.le_refl
  | j + 1 => by
    have := sk_mono3 ha hab j
    have := tk_mono3 ha hab j
    show sk a 3 j + tk a 3 j ≤ sk b 3 j + tk b 3 j
    grind
theorem E_monoX {x y : Rat} (hx : 0 ≤ x) (hxy : x ≤ y) : ∀ L, Ex.E x L ≤ Ex.E y L
  | 0 => Rat.le_refl
  | L + 1 => by
    have := E_monoX hx hxy L
    have := Ex.tm_mono hx hxy L
    show Ex.E x L + Ex.tm x L ≤ Ex.E y L + Ex.tm y L
    grind
theorem odd_lip {n : Nat} (h : n % 2 = 1) {x y s : Rat} {L : Nat} (hx : 0 ≤ x) (hxy : x ≤ y) (hy : y ≤ 64) (s0 : 0 ≤ s) (s8 : s ≤ 8) (hL : 1 ≤ L) : igV n s y L ≤ igV n s x L + 32 * Ex.t2 102 * (y - x) := by
  have y0 : 0 ≤ y := Rat.le_trans hx hxy
  have st : ∀ z : Rat, 0 ≤ z → igV n s z L = s * (1 / SQ) * 2 * (sk (z * 2) 3 (n / 2 + L) - sk (z * 2) 3 (n / 2)) * (1 / Ex.E z L) := by
    intro z z0
    unfold igV
    rw [show igC n s = s * (1 / SQ) * 2 from if_pos h, h, Rat.one_mul, evX_inv z0 hL]
    have j := sk_join (z * 2) 3 (n / 2) L
    rw [show 3 + 2 * (n / 2) = n + 2 by omega] at j
    rw [← j]; grind
  rw [st x hx, st y y0]
  have ox := E_one hx hL
  have oy := E_one y0 hL
  have i1 : Ex.E x L * (1 / Ex.E x L) = 1 := Ex.mul_div _ 1 (by grind)
  have i2 : Ex.E y L * (1 / Ex.E y L) = 1 := Ex.mul_div _ 1 (by grind)
  have p1 : 0 ≤ 1 / Ex.E x L := Ex.div_nn (by decide) (by grind)
  have p2 : 0 ≤ 1 / Ex.E y L := Ex.div_nn (by decide) (by grind)
  have q1 : 1 / Ex.E x L ≤ 1 := by
    have := Rat.mul_le_mul_of_nonneg_right ox p1
    rw [i1, Rat.one_mul] at this; exact this
  have q2 : 1 / Ex.E y L ≤ 1 / Ex.E x L := by
    have := Rat.mul_le_mul_of_nonneg_right (E_monoX hx hxy L) (Rat.mul_nonneg p1 p2)
    have k1 : Ex.E x L * (1 / Ex.E x L * (1 / Ex.E y L)) = 1 / Ex.E y L := by rw [← Rat.mul_assoc, i1, Rat.one_mul]
    have k2 : Ex.E y L * (1 / Ex.E x L * (1 / Ex.E y L)) = 1 / Ex.E x L := by
      have : Ex.E y L * (1 / Ex.E x L * (1 / Ex.E y L)) = 1 / Ex.E x L * (Ex.E y L * (1 / Ex.E y L)) := by grind
      rw [this, i2, Rat.mul_one]
    rw [k1, k2] at this; exact this
  obtain ⟨M, hM⟩ : ∃ M, n / 2 + L = M + 1 := ⟨n / 2 + L - 1, by omega⟩
  have lip := sk_lip (a := x * 2) (b := y * 2) (by grind) (by grind) M
  have mn := sk_mono3 (a := x * 2) (b := y * 2) (by grind) (by grind) (n / 2)
  have kE := Rat.le_trans (sk2_le y0 M) (E_big y0 hy M)
  rw [hM]
  have zx : 0 ≤ sk (x * 2) 3 (M + 1) - sk (x * 2) 3 (n / 2) := by
    have := sk_up (y := x * 2) (k0 := 3) (by omega) (by grind) (show n / 2 ≤ M + 1 by omega)
    grind
  have zy : 0 ≤ sk (y * 2) 3 (M + 1) - sk (y * 2) 3 (n / 2) := by
    have := sk_up (y := y * 2) (k0 := 3) (by omega) (by grind) (show n / 2 ≤ M + 1 by omega)
    grind
  have m1 := Rat.mul_le_mul_of_nonneg_left kE (show 0 ≤ y * 2 - x * 2 by grind)
  have dz : sk (y * 2) 3 (M + 1) - sk (y * 2) 3 (n / 2) ≤ sk (x * 2) 3 (M + 1) - sk (x * 2) 3 (n / 2) + 2 * Ex.t2 102 * (y - x) := by grind
  have q := SQ_one.1
  have j1 : SQ * (1 / SQ) = 1 := Ex.mul_div _ 1 (by grind)
  have j0 : 0 ≤ 1 / SQ := Ex.div_nn (by decide) (by grind)
  have j2 := Rat.mul_le_mul_of_nonneg_right q j0
  rw [j1, Rat.one_mul] at j2
  have c0 : 0 ≤ s * (1 / SQ) * 2 := by have := Rat.mul_nonneg s0 j0; grind
  have c16 : s * (1 / SQ) * 2 ≤ 16 := by have := mul_le s8 j2 (by decide) j0; grind
  generalize s * (1 / SQ) * 2 = c at *
  generalize sk (y * 2) 3 (M + 1) - sk (y * 2) 3 (n / 2) = ZY at *
  generalize sk (x * 2) 3 (M + 1) - sk (x * 2) 3 (n / 2) = ZX at *
  generalize 1 / Ex.E x L = ix at *
  generalize 1 / Ex.E y L = iy at *
  have K0 : 0 ≤ Ex.t2 102 * (y - x) := Rat.mul_nonneg (Rat.le_of_lt (Ex.t2_pos 102)) (by grind)
  have a1 := Rat.mul_le_mul_of_nonneg_left q2 (Rat.mul_nonneg c0 zy)
  have a2 := Rat.mul_le_mul_of_nonneg_right (Rat.mul_le_mul_of_nonneg_left dz c0) p1
  have a3 := mul_le c16 q1 (by decide) p1
  have a4 := Rat.mul_le_mul_of_nonneg_right a3 (show 0 ≤ 2 * (Ex.t2 102 * (y - x)) by grind)
  clear st lip mn kE m1 zx zy dz i1 i2 ox oy
  generalize Ex.t2 102 = K at *
  grind
theorem root_near {x lo hi d : Rat} (l0 : 0 ≤ lo) (lh : lo ≤ hi) (l1 : lo * lo ≤ x) (l2 : x ≤ hi * hi) (hd : 0 < d) : ∃ a b : Rat, lo ≤ a ∧ a ≤ b ∧ b ≤ hi ∧ a * a ≤ x ∧ x ≤ b * b ∧ b * b ≤ a * a + d := by
  have bis : ∀ k : Nat, ∃ a b : Rat, lo ≤ a ∧ a ≤ b ∧ b ≤ hi ∧ a * a ≤ x ∧ x ≤ b * b ∧ (b - a) * Ex.t2 k ≤ hi - lo := by
    intro k
    induction k with
    | zero => exact ⟨lo, hi, Rat.le_refl, lh, Rat.le_refl, l1, l2, by show (hi - lo) * ((2 ^ 0 : Nat) : Rat) ≤ _; rw [show ((2 ^ 0 : Nat) : Rat) = 1 from rfl, Rat.mul_one]; exact Rat.le_refl⟩
    | succ k ih =>
      obtain ⟨a, b, h1, h2, h3, h4, h5, h6⟩ := ih
      have t := Ex.t2_succ k
      obtain ⟨c, hc⟩ : ∃ c : Rat, c * 2 = a + b := ⟨(a + b) / 2, Rat.div_mul_cancel (by decide)⟩
      by_cases g : c * c ≤ x
      · refine ⟨c, b, by grind, by grind, h3, g, h5, ?_⟩
        rw [t]
        have : (b - c) * (Ex.t2 k + Ex.t2 k) = (b - a) * Ex.t2 k := by
          have : b - a = (b - c) * 2 := by grind
          rw [this]; grind
        rw [this]; exact h6
      · refine ⟨a, c, h1, by grind, by grind, h4, by grind, ?_⟩
        rw [t]
        have : (c - a) * (Ex.t2 k + Ex.t2 k) = (b - a) * Ex.t2 k := by
          have : b - a = (c - a) * 2 := by grind
          rw [this]; grind
        rw [this]; exact h6
  have hi0 : 0 ≤ hi := Rat.le_trans l0 lh
  obtain ⟨k, k1, k2⟩ := arch (D := (hi - lo) * (hi + hi)) (Rat.mul_nonneg (by grind) (by grind)) hd
  obtain ⟨a, b, h1, h2, h3, h4, h5, h6⟩ := bis k
  refine ⟨a, b, h1, h2, h3, h4, h5, ?_⟩
  have T := Ex.t2_pos k
  have kt := Ex.nat_t2 k
  have m1 := Rat.mul_le_mul_of_nonneg_right h6 (show 0 ≤ hi + hi by grind)
  have m2 := Rat.mul_le_mul_of_nonneg_left kt (Rat.le_of_lt hd)
  have m3 := Rat.mul_le_mul_of_nonneg_left (show b + a ≤ hi + hi by grind) (Rat.mul_nonneg (show 0 ≤ b - a by grind) (Rat.le_of_lt T))
  have fin : (b * b - a * a) * Ex.t2 k ≤ d * Ex.t2 k := by
    have e : (b * b - a * a) * Ex.t2 k = (b - a) * Ex.t2 k * (b + a) := by grind
    rw [e]
    exact Rat.le_trans m3 (Rat.le_trans m1 (Rat.le_trans k2 m2))
  have := le_by T fin
  grind
def fzN : Nat → Nat → Nat → Nat → Nat → Nat → Nat × Nat × Nat
  | 0, _, lo, hi, a, b => (a, b, hi)
  | f + 1, m, lo, hi, a, b => pin (m + 2) fun m' => pin (lo * 128 / m') fun lo' => pin (hi * 128 / m' + 1) fun hi' => pin (a + lo') fun a' => pin (b + hi') fun b' => fzN f m' lo' hi' a' b'
def fzP : Nat → Nat → Nat → Nat → Nat × Nat
  | 0, _, lo, hi => (lo, hi)
  | f + 1, m, lo, hi => pin (m + 2) fun m' => pin (lo * 128 / m') fun lo' => pin (hi * 128 / m' + 1) fun hi' => fzP f m' lo' hi'
def fzS (n : Nat) : Nat × Nat × Nat := match (if n % 2 = 1 then fzP (n / 2) 1 (16 * 2 ^ 600 / rootPi) (16 * 2 ^ 600 / rootPi + 1) else fzP (n / 2) 0 (2 ^ 200) (2 ^ 200)) with
  | (lo, hi) => fzN 220 n lo hi lo hi
def fzOk (n : Nat) : Bool := match fzS n, fzS (n + 1) with
  | (a, _, _), (_, b, h) => Nat.ble (b + h) a
theorem fz_ok : allFrom fzOk 28 1 = true := by kernel_rfl
theorem fzP_enc : ∀ (f m lo hi : Nat), Enc 200 lo hi (wT m 8) → Enc 200 (fzP f m lo hi).1 (fzP f m lo hi).2 (wT (m + 2 * f) 8)
  | 0, m, lo, hi, h => h
  | f + 1, m, lo, hi, h => by
    have e := enc_times (n := 128) (d := m + 2) (by omega) h
    have e2 : wT m 8 * ((128 : Nat) : Rat) / ((m + 2 : Nat) : Rat) = wT (m + 2) 8 := by
      show _ = wT m 8 * (8 * 8 * 2) * ((1 : Nat) : Rat) / ((m + 2 : Nat) : Rat)
      rw [show ((128 : Nat) : Rat) = 8 * 8 * 2 by decide +kernel, show ((1 : Nat) : Rat) = 1 from rfl, Rat.mul_one]
    rw [e2] at e
    have ih := fzP_enc f (m + 2) _ _ e
    rw [fzP, pin_eq, pin_eq, pin_eq, show m + 2 * (f + 1) = m + 2 + 2 * f by omega]
    exact ih
theorem fzN_enc (n : Nat) : ∀ (f i lo hi a b : Nat), Enc 200 lo hi (wT (n + 2 * i) 8) → Enc 200 a b (wA n 8 (i + 1)) → Enc 200 (fzN f (n + 2 * i) lo hi a b).1 (fzN f (n + 2 * i) lo hi a b).2.1 (wA n 8 (i + f + 1)) ∧ wT (n + 2 * (i + f)) 8 * p2 200 ≤ (((fzN f (n + 2 * i) lo hi a b).2.2 : Nat) : Rat)
  | 0, i, lo, hi, a, b, h, g => ⟨g, h.2⟩
  | f + 1, i, lo, hi, a, b, h, g => by
    have e := enc_times (n := 128) (d := n + 2 * i + 2) (by omega) h
    have e2 : wT (n + 2 * i) 8 * ((128 : Nat) : Rat) / ((n + 2 * i + 2 : Nat) : Rat) = wT (n + 2 * (i + 1)) 8 := by
      show _ = wT (n + 2 * i) 8 * (8 * 8 * 2) * ((1 : Nat) : Rat) / ((n + 2 * i + 2 : Nat) : Rat)
      rw [show ((128 : Nat) : Rat) = 8 * 8 * 2 by decide +kernel, show ((1 : Nat) : Rat) = 1 from rfl, Rat.mul_one]
    rw [e2] at e
    have g2 := enc_add g e
    have ih := fzN_enc n f (i + 1) _ _ _ _ e (show Enc 200 _ _ (wA n 8 (i + 1) + wT (n + 2 * (i + 1)) 8) from g2)
    rw [fzN, pin_eq, pin_eq, pin_eq, pin_eq, pin_eq, show i + (f + 1) = i + 1 + f by omega]
    exact ih
theorem fzS_enc (n : Nat) : Enc 200 (fzS n).1 (fzS n).2.1 (wA n 8 221) ∧ wT (n + 440) 8 * p2 200 ≤ (((fzS n).2.2 : Nat) : Rat) := by
  have start : ∃ lo hi : Nat, (if n % 2 = 1 then fzP (n / 2) 1 (16 * 2 ^ 600 / rootPi) (16 * 2 ^ 600 / rootPi + 1) else fzP (n / 2) 0 (2 ^ 200) (2 ^ 200)) = (lo, hi) ∧ Enc 200 lo hi (wT n 8) := by
    by_cases h : n % 2 = 1
    · rw [if_pos h]
      have one : Enc 200 (16 * 2 ^ 600 / rootPi) (16 * 2 ^ 600 / rootPi + 1) (wT 1 8) := by
        show Enc 200 _ _ (8 * (1 / SQ) * 2)
        constructor <;> decide +kernel
      have e := fzP_enc (n / 2) 1 _ _ one
      rw [show 1 + 2 * (n / 2) = n by omega] at e
      exact ⟨_, _, rfl, e⟩
    · rw [if_neg h]
      have one : Enc 200 (2 ^ 200) (2 ^ 200) (wT 0 8) := ⟨by show _ ≤ 1 * p2 200; rw [Rat.one_mul]; exact Rat.le_refl, by show 1 * p2 200 ≤ _; rw [Rat.one_mul]; exact Rat.le_refl⟩
      have e := fzP_enc (n / 2) 0 _ _ one
      rw [show 0 + 2 * (n / 2) = n by omega] at e
      exact ⟨_, _, rfl, e⟩
  obtain ⟨lo, hi, h1, h2⟩ := start
  unfold fzS
  rw [h1]
  exact fzN_enc n 220 0 lo hi lo hi h2 (show Enc 200 lo hi (0 + wT n 8) by rw [Rat.zero_add]; exact h2)
theorem fall_64 {n : Nat} (h1 : 1 ≤ n) (h2 : n ≤ 28) : ∃ N, ∀ L, N ≤ L → igV (n + 1) 8 (8 * 8) L ≤ igV n 8 (8 * 8) L := by
  refine ⟨221, fun L hL => ?_⟩
  have ok := allFrom_at fz_ok n h1 (by omega)
  obtain ⟨a1, -⟩ := fzS_enc n
  obtain ⟨b1, b2⟩ := fzS_enc (n + 1)
  have c : (fzS (n + 1)).2.1 + (fzS (n + 1)).2.2 ≤ (fzS n).1 := by
    unfold fzOk at ok
    generalize fzS n = p at *
    generalize fzS (n + 1) = q at *
    obtain ⟨x, y, z⟩ := p
    obtain ⟨x', y', z'⟩ := q
    exact Nat.le_of_ble_eq_true ok
  have cR := Ex.castle c
  rw [Ex.castadd (fzS (n + 1)).2.1 (fzS (n + 1)).2.2] at cR
  rw [igV_sq, igV_sq]
  have y0 : (0 : Rat) ≤ 8 * 8 * 2 := by decide +kernel
  have ev : 0 ≤ evX (-(8 * 8)) L := by rw [evX_inv (by decide +kernel) (by omega)]; exact Rat.le_trans (Ex.div_nn (by decide) (Ex.t2_pos 102)) (inv_bds (by decide +kernel) (by decide +kernel) (by omega)).1
  refine Rat.mul_le_mul_of_nonneg_right ?_ ev
  have top : wA (n + 1) 8 L ≤ wA (n + 1) 8 221 + wT (n + 1 + 440) 8 := by
    have t := sk_top (y := 8 * 8 * 2) (k0 := n + 1 + 2) (i := 220) (L := L) (by omega) y0 (by
      have : ((256 : Nat) : Rat) ≤ ((n + 1 + 2 + 2 * 220 : Nat) : Rat) := Ex.castle (by omega)
      exact Rat.le_trans (by decide +kernel) this)
    have w0 := (wT_one (n + 1) 8 (by decide) (by decide)).1
    have m := Rat.mul_le_mul_of_nonneg_left t w0
    rw [Rat.mul_add, ← wA_is, ← wA_is, ← wT_tk] at m
    exact m
  have low : wA n 8 221 ≤ wA n 8 L := by
    rw [wA_is, wA_is]
    exact Rat.mul_le_mul_of_nonneg_left (sk_up (by omega) y0 hL) (wT_one n 8 (by decide) (by decide)).1
  have P := p2_pos 200
  have fin : wA (n + 1) 8 221 + wT (n + 1 + 440) 8 ≤ wA n 8 221 := by
    refine le_by P ?_
    rw [Rat.add_mul]
    have x1 := a1.1
    have x2 := b1.2
    grind
  exact Rat.le_trans top (Rat.le_trans fin low)
end Go.Proofs.YtemnjalaincijaaGreat
namespace Go.Proofs.YtemnjalaincijaaGreat
open Go.Ev
def nRowQ (w Y1 Y2 : Nat) : Nat → Nat → Nat → Nat → Nat → Nat → Nat → Nat → Option (Nat × Nat × Nat × Nat)
  | 0, _, _, _, _, _, _, _ => none
  | f + 1, i, t1, t2, a1, a2, b1, b2 => pin (t1 * Y1 / 2 ^ w / i) fun u1 => pin (cdv (cdv (t2 * Y2) (2 ^ w)) i) fun u2 => pin (i + 1) fun i' =>
    if i % 2 = 1 then pin (b1 + u1) fun c1 => pin (b2 + u2) fun c2 => if u2 ≤ 2 then some (a1, a2, c1, c2) else nRowQ w Y1 Y2 f i' u1 u2 a1 a2 c1 c2
    else pin (a1 + u1) fun c1 => pin (a2 + u2) fun c2 => if u2 ≤ 2 then some (c1, c2, b1, b2) else nRowQ w Y1 Y2 f i' u1 u2 c1 c2 b1 b2
theorem nRowQ_is {w Y1 Y2 : Nat} : ∀ (f i t1 t2 a1 a2 b1 b2 : Nat) {p1 p2 q1 q2 : Nat}, nRowQ w Y1 Y2 f i t1 t2 a1 a2 b1 b2 = some (p1, p2, q1, q2) → nRow w Y1 Y2 f i t1 t2 ((a1 : Int) - b2) ((a2 : Int) - b1) = some ((p1 : Int) - q2 - 4, (p2 : Int) - q1 + 4) := by
  intro f
  induction f with
  | zero => intro i t1 t2 a1 a2 b1 b2 p1 p2 q1 q2 h; cases h
  | succ f ih =>
    intro i t1 t2 a1 a2 b1 b2 p1 p2 q1 q2 h
    rw [nRowQ] at h
    rw [pin_eq, pin_eq, pin_eq] at h
    rw [nRow]
    generalize t1 * Y1 / 2 ^ w / i = u1 at *
    generalize cdv (cdv (t2 * Y2) (2 ^ w)) i = u2 at *
    by_cases g : i % 2 = 1
    · rw [if_pos g, pin_eq, pin_eq] at h
      rw [if_pos g, if_pos g]
      by_cases k : u2 ≤ 2
      · rw [if_pos k] at h ⊢
        simp only [Option.some.injEq, Prod.mk.injEq] at h ⊢
        omega
      · rw [if_neg k] at h ⊢
        have := ih _ _ _ _ _ _ _ h
        rw [show (a1 : Int) - b2 - u2 = (a1 : Int) - ((b2 + u2 : Nat) : Int) by omega, show (a2 : Int) - b1 - u1 = (a2 : Int) - ((b1 + u1 : Nat) : Int) by omega]
        exact this
    · rw [if_neg g, pin_eq, pin_eq] at h
      rw [if_neg g, if_neg g]
      by_cases k : u2 ≤ 2
      · rw [if_pos k] at h ⊢
        simp only [Option.some.injEq, Prod.mk.injEq] at h ⊢
        omega
      · rw [if_neg k] at h ⊢
        have := ih _ _ _ _ _ _ _ h
        rw [show (a1 : Int) - b2 + u1 = ((a1 + u1 : Nat) : Int) - b2 by omega, show (a2 : Int) - b1 + u2 = ((a2 + u2 : Nat) : Int) - b1 by omega]
        exact this
def sqnP (w : Nat) : Nat → Nat → Nat → Nat × Nat
  | 0, a, b => (a, b)
  | k + 1, a, b => pin (a * a / 2 ^ w) fun a' => pin (cdv (b * b) (2 ^ w)) fun b' => sqnP w k a' b'
theorem sqnP_is {w : Nat} : ∀ k a b : Nat, sqnP w k a b = sqn w k a b
  | 0, _, _ => rfl
  | k + 1, a, b => by rw [sqnP, pin_eq, pin_eq]; exact sqnP_is k _ _
def exOk : Bool := match nRowQ 210 (2 ^ 202) (2 ^ 202) 108 1 (2 ^ 210) (2 ^ 210) (2 ^ 210) (2 ^ 210) 0 0 with
  | some (p1, p2, q1, q2) => Nat.ble (q2 + 4) p1 && (Nat.ble q1 p2 && pin (p1 - q2 - 4) fun a => pin (p2 - q1 + 4) fun b => match sqnP 210 8 a b with | (r1, r2) => Nat.beq (r1 / 2 ^ 130 / 2 ^ 20) (cdv r2 (2 ^ 130) / 2 ^ 20))
  | none => false
theorem ex_ok : exOk = true := by kernel_rfl
theorem ex_cert {A0 B0 : Nat} {N M : Nat} (hN : N = 210) (hM : M = 2 ^ 202) (h : nRow N M M 108 1 (2 ^ N) (2 ^ N) (2 ^ N : Nat) (2 ^ N : Nat) = some ((A0 : Int), (B0 : Int))) : (sqn N 8 A0 B0).1 / 2 ^ 130 / 2 ^ 20 = cdv (sqn N 8 A0 B0).2 (2 ^ 130) / 2 ^ 20 := by
  have k := ex_ok
  unfold exOk at k
  rw [← hN, ← hM] at k
  split at k
  · rename_i p1 p2 q1 q2 hq
    have z := nRowQ_is _ _ _ _ _ _ _ _ hq
    rw [Bool.and_eq_true, Bool.and_eq_true, pin_eq, pin_eq, sqnP_is] at k
    obtain ⟨k1, k2, k3⟩ := k
    have k1 := Nat.le_of_ble_eq_true k1
    have k2 := Nat.le_of_ble_eq_true k2
    rw [show ((2 ^ N : Nat) : Int) - ((0 : Nat) : Int) = ((2 ^ N : Nat) : Int) by omega, h] at z
    simp only [Option.some.injEq, Prod.mk.injEq] at z
    obtain ⟨z1, z2⟩ := z
    rw [show p1 - q2 - 4 = A0 by omega, show p2 - q1 + 4 = B0 by omega] at k3
    exact Nat.eq_of_beq_eq_true k3
  · cases k
theorem ref4_Floor {A B w p : Nat} (lA : (lim A).length ≤ 1000) (lB : (lim B).length ≤ 1000) (hp : p < w) (hw : w ≤ 4096) : Go.Ev.Fn CX 87 [ivN A B, .int .i64 (w : Int), .int .i64 (p : Int)] (.tup [ballR (mkRat ((A / 2 ^ (w - p) : Nat) : Int) (2 ^ p)) (mkRat ((A / 2 ^ (w - p) + 1 : Nat) : Int) (2 ^ p)), .bool (decide (A / 2 ^ (w - p) = B / 2 ^ (w - p)))]) := by
  have a := ref4_Less (A : Int) (w - p) (by rw [Int.natAbs_natCast]; omega) (by omega) (by omega)
  have b := ref4_Less (B : Int) (w - p) (by rw [Int.natAbs_natCast]; omega) (by omega) (by omega)
  rw [← Int.natCast_ediv, intN_eq, intN_eq] at a b
  have l1 := lim_len_mono (Nat.div_le_self A (2 ^ (w - p)))
  have l2 := lim_len_mono (Nat.div_le_self B (2 ^ (w - p)))
  generalize A / 2 ^ (w - p) = m at *
  generalize B / 2 ^ (w - p) = m' at *
  have r1 := ref4_Rat (a := (m : Int)) (by rw [Int.natAbs_natCast]; omega) p (by omega)
  have w1 := ref4_Whole 1 (by omega)
  have lo := lim_len1
  have pl := ref4_Plus (m : Int) ((1 : Nat) : Int) (by rw [Int.natAbs_natCast]; omega) (by rw [Int.natAbs_natCast]; omega)
  have l3 := lim_len_add (a := m) (b := 1) (L := 1000) (by omega) (by omega)
  have r2 := ref4_Rat (a := ((m + 1 : Nat) : Int)) (by rw [Int.natAbs_natCast]; omega) p (by omega)
  have cc := ref4_CmpN (a := m) (b := m') (by omega) (by omega)
  rw [show (m : Int) + ((1 : Nat) : Int) = ((m + 1 : Nat) : Int) by omega, intN_eq, intN_eq, intN_eq] at pl
  rw [show (1 : Int) = ((1 : Nat) : Int) from rfl, intN_eq] at w1
  rw [intN_eq] at r1 r2
  have ec : (cmpZ ((m : Nat) : Int) ((m' : Nat) : Int) == 0) = decide (m = m') := decide_eq_decide.2 (by unfold cmpZ; constructor <;> intro h <;> (first | (split at h <;> (first | omega | (split at h <;> omega))) | (subst h; rw [if_neg (by omega), if_pos rfl])))
  rw [← ec]
  clear ec
  generalize cmpZ ((m : Nat) : Int) ((m' : Nat) : Int) = z at *
  generalize mkRat ((m + 1 : Nat) : Int) (2 ^ p) = q2 at *
  generalize mkRat ((m : Nat) : Int) (2 ^ p) = q1 at *
  generalize m + 1 = m1 at *
  refine Go.Ev.Fn.intro (fn := Tryz.f87) (body := (Tryz.f87).body.get!) (by kernel_rfl) (by kernel_rfl) (by kernel_rfl) (fun _ => rfl) (Nat.le_of_ble_eq_true (by kernel_rfl)) ?_; unfold Tryz.f87; simp only [Option.get!_some]
  repeat (first | (simp only [go_sem, Nat.reduceEqDiff, Nat.reduceAdd, Nat.reduceSub, Nat.reduceMul, Nat.reduceLeDiff, Nat.reduceLT, reduceIte, reduceCtorEq, Nat.succ_ne_zero, elemsC, Int.reduceToNat, Nat.reducePow]) | (simp (disch := (first | omega | (simp only [AL, List.length_map]; omega))) only [AR, AL, ifT, ifF, take_all, List.length_cons, List.length_nil, Int.reduceToNat, Int.reducePow, Nat.reducePow]) | (refine wk_intro (by kernel_rfl) ?_) | (refine vp_draw (id := 1) (l := []) (by kernel_rfl) ?_) | (refine vp_draw (id := 2) (l := []) (by kernel_rfl) ?_) | (refine vf_of (by first | exact a | exact b | exact r1 | exact w1 | exact pl | exact r2 | exact cc) ?_))
theorem ref6_far1 {v : SV} (hv : RatA v (-1) 2) : Go.Ev.Fn CX 85 [v] (.bool false) := by
  have im := ref2_Int (-64) (by omega)
  have ip := ref2_Int 64 (by omega)
  have c1 := ref2_Cmp hv (RatA_rv (int_szR (n := -64) (by omega))) (by omega) (by omega) (by omega)
  have c2 := ref2_Cmp hv (RatA_rv (int_szR (n := 64) (by omega))) (by omega) (by omega) (by omega)
  have e1 : decide (cmpR (-1) ((-64 : Int) : Rat) < 0) = false := by rw [cmpR_lt]; decide +kernel
  have e2 : decide (cmpR (-1) ((64 : Int) : Rat) > 0) = false := by rw [cmpR_gt]; decide +kernel
  generalize cmpR (-1) ((-64 : Int) : Rat) = y1 at *
  generalize cmpR (-1) ((64 : Int) : Rat) = y2 at *
  obtain ⟨s, n, d, rfl, -⟩ := hv
  refine Go.Ev.Fn.intro (fn := Tryz.f85) (body := (Tryz.f85).body.get!) (by kernel_rfl) (by kernel_rfl) (by kernel_rfl) (fun _ => rfl) (Nat.le_of_ble_eq_true (by kernel_rfl)) ?_; unfold Tryz.f85; simp only [Option.get!_some]
  repeat (first | (simp only [go_sem, Nat.reduceEqDiff, Nat.reduceAdd, Nat.reduceSub, Nat.reduceMul, Nat.reduceLeDiff, Nat.reduceLT, reduceIte, reduceCtorEq, Nat.succ_ne_zero, elemsC, Int.reduceToNat, Nat.reducePow, e1, e2]) | (simp (disch := (first | omega | (simp only [AL, List.length_map]; omega))) only [AR, AL, ifT, ifF, take_all, List.length_cons, List.length_nil, Int.reduceToNat, Int.reducePow, Nat.reducePow, e1, e2]) | (refine wk_intro (by kernel_rfl) ?_) | (refine vp_draw (id := 1) (l := []) (by kernel_rfl) ?_) | (refine vf_of (by first | exact im | exact c1 | exact ip | exact c2) ?_))
theorem ref6_Exp1 {v : SV} (hv : RatA v (-1) 2) : ∃ m : Nat, (lim m).length ≤ 40 ∧ Go.Ev.Fn CX 35 [v, .int .i64 60] (.tup [ballR (mkRat (m : Int) (2 ^ 60)) (mkRat ((m + 1 : Nat) : Int) (2 ^ 60)), .bool true]) ∧ ∃ s, ∀ L, s ≤ L → Enc 60 m (m + 1) (evX (-1) L) := by
  obtain ⟨A, B, a1, a2, fi, ⟨s, hs⟩, A0, B0, hr, hA, hB⟩ := ref6_IvX (w := 80) hv (by omega) (by omega) (by decide) (by decide) (by omega)
  have u1 : unN (-(-1) * (1 / 256)) 210 = 2 ^ 202 := by decide +kernel
  have u2 : upN (-(-1) * (1 / 256)) 210 = 2 ^ 202 := by decide +kernel
  rw [show 80 + 130 = 210 from rfl] at hr hA hB
  rw [show 210 / 2 + 3 = 108 from rfl, u1, u2] at hr
  have ce := ex_cert rfl rfl hr
  rw [← hA, ← hB] at ce
  have lB : (lim B).length ≤ 40 := lim_len_p2 (w := 80 + 130 + 256) a2 (by omega)
  have lA := lim_len_mono a1
  clear hr u1 u2 a2 hA hB
  have fl := ref4_Floor (A := A) (B := B) (w := 80) (p := 60) (by omega) (by omega) (by omega) (by omega)
  rw [show 80 - 60 = 20 from rfl, decide_eq_true ce] at fl
  refine ⟨A / 2 ^ 20, Nat.le_trans (lim_len_mono (Nat.div_le_self _ _)) (by omega), ?_, s, fun L hL => ?_⟩
  rotate_left
  · have e := enc_backN (w := 60) (n := 20) (hs L hL)
    refine ⟨e.1, Rat.le_trans e.2 (Ex.castle ?_)⟩
    rw [ce]
    exact cdv_le (by decide) (by
      have := Nat.lt_div_mul_add (a := B) (b := 2 ^ 20) (by decide)
      rw [Nat.add_mul]; omega)
  · have ho := ref4_Hold (p := 60) (P := 60) (.inr rfl) (by omega)
    have fa := ref6_far1 hv
    have zr := ref2_Zero hv (by omega) (by omega)
    rw [decide_eq_false (by decide)] at zr
    clear hs ce lA lB a1
    generalize mkRat ((A / 2 ^ 20 : Nat) : Int) (2 ^ 60) = q1 at *
    generalize mkRat ((A / 2 ^ 20 + 1 : Nat) : Int) (2 ^ 60) = q2 at *
    obtain ⟨s0, n0, d0, rfl, -⟩ := hv
    refine Go.Ev.Fn.intro (fn := Tryz.f35) (body := (Tryz.f35).body.get!) (by kernel_rfl) (by kernel_rfl) (by kernel_rfl) (fun _ => rfl) (Nat.le_of_ble_eq_true (by kernel_rfl)) ?_; unfold Tryz.f35; simp only [Option.get!_some]
    repeat (first | (simp only [go_sem, Nat.reduceEqDiff, Nat.reduceAdd, Nat.reduceSub, Nat.reduceMul, Nat.reduceLeDiff, Nat.reduceLT, reduceIte, reduceCtorEq, Nat.succ_ne_zero, elemsC, Int.reduceToNat, Nat.reducePow]) | (simp (disch := (first | omega | (simp only [AL, List.length_map]; omega))) only [AR, AL, ifT, ifF, take_all, List.length_cons, List.length_nil, Int.reduceToNat, Int.reducePow, Nat.reducePow]) | (refine wk_intro (by kernel_rfl) ?_) | (refine vf_of (by first | exact ho | exact fa | exact zr) ?_))
    refine vp_loop_inv (fun s' => s'.tmp 1 = .sv (.int .i64 60) ∧ s'.tmp 2 = .ptr 2 0 0 ∧ s'.obj 2 0 = some [.bool s0, natV n0, natV d0] ∧ s'.tmp 4 = .ptr 4 0 0 ∧ s'.obj 4 0 = some [.bool false, .sl 0 [], .sl 0 [], .bool false, .sl 0 [], .sl 0 []] ∧ s'.tmp 6 = .sv (.int .i64 80))
      (fun _ => 0) ⟨rfl, rfl, rfl, rfl, rfl, rfl⟩ ?_
    rintro s' ⟨i1, i2, o2, i4, o4, i6⟩
    repeat (first | (simp only [go_sem, Nat.reduceEqDiff, Nat.reduceAdd, Nat.reduceSub, Nat.reduceMul, Nat.reduceLeDiff, Nat.reduceLT, reduceIte, reduceCtorEq, Nat.succ_ne_zero, elemsC, Int.reduceToNat, Nat.reducePow, i1, i2, o2, i4, o4, i6]) | (simp (disch := (first | omega | (simp only [AL, List.length_map]; omega))) only [AR, AL, ifT, ifF, take_all, List.length_cons, List.length_nil, Int.reduceToNat, Int.reducePow, Nat.reducePow, i1, i2, o2, i4, o4, i6]) | (refine wk_intro (by kernel_rfl) ?_) | (refine vf_of (by first | exact fi | exact fl) ?_))
theorem law11_big (s : Bool) (n d : List Nat) (hn : n.length ≤ 9223372036854775807) (hd : d.length ≤ 9223372036854775807) : Go.Ev.Fn CX 15 [.sl 1 [.bool s, natV n, natV d]] (.bool (decide (3 < n.length) || decide (3 < d.length))) := by
  refine Go.Ev.Fn.intro (fn := Tryz.f15) (body := (Tryz.f15).body.get!) (by kernel_rfl) (by kernel_rfl) (by kernel_rfl) (fun _ => rfl) (Nat.le_of_ble_eq_true (by kernel_rfl)) ?_; unfold Tryz.f15; simp only [Option.get!_some]
  repeat (first | (simp only [go_sem, Nat.reduceEqDiff, Nat.reduceAdd, Nat.reduceSub, Nat.reduceMul, Nat.reduceLeDiff, Nat.reduceLT, reduceIte, reduceCtorEq, Nat.succ_ne_zero, elemsC, Int.reduceToNat, Nat.reducePow]) | (simp (disch := (first | omega | (simp only [AL, List.length_map]; omega))) only [AR, AL, ifT, ifF, take_all, List.length_cons, List.length_nil, Int.reduceToNat, Int.reducePow, Nat.reducePow]) | (refine wk_intro (by kernel_rfl) ?_))
  refine vp_loop_inv (fun st => st.tmp 0 = .sv (.sl 1 [.bool s, natV n, natV d]) ∧ ((st.tmp 3 = .sv (.int .i64 0)) ∨ (st.tmp 3 = .sv (.int .i64 1) ∧ n.length ≤ 3 ∧ d.length ≤ 3)))
    (fun st => match st.tmp 3 with | .sv (.int _ i) => 1 - i.toNat | _ => 0) ⟨rfl, .inl rfl⟩ ?_
  rintro st ⟨i0, i3 | ⟨i3, h1, h2⟩⟩
  · by_cases h1 : 3 < n.length
    · rw [decide_eq_true h1, Bool.true_or]
      repeat (first | (simp only [go_sem, Nat.reduceEqDiff, Nat.reduceAdd, Nat.reduceSub, Nat.reduceMul, Nat.reduceLeDiff, Nat.reduceLT, reduceIte, reduceCtorEq, Nat.succ_ne_zero, elemsC, Int.reduceToNat, Nat.reducePow, i0, i3]) | (simp (disch := (first | omega | (simp only [AL, List.length_map]; omega))) only [AR, AL, ifT, ifF, take_all, List.length_cons, List.length_nil, Int.reduceToNat, Int.reducePow, Nat.reducePow, i0, i3]) | (refine wk_intro (by kernel_rfl) ?_))
    · rw [decide_eq_false h1, Bool.false_or]
      by_cases h2 : 3 < d.length
      · rw [decide_eq_true h2]
        repeat (first | (simp only [go_sem, Nat.reduceEqDiff, Nat.reduceAdd, Nat.reduceSub, Nat.reduceMul, Nat.reduceLeDiff, Nat.reduceLT, reduceIte, reduceCtorEq, Nat.succ_ne_zero, elemsC, Int.reduceToNat, Nat.reducePow, i0, i3]) | (simp (disch := (first | omega | (simp only [AL, List.length_map]; omega))) only [AR, AL, ifT, ifF, take_all, List.length_cons, List.length_nil, Int.reduceToNat, Int.reducePow, Nat.reducePow, i0, i3]) | (refine wk_intro (by kernel_rfl) ?_))
      · rw [decide_eq_false h2]
        repeat (first | (simp only [go_sem, Nat.reduceEqDiff, Nat.reduceAdd, Nat.reduceSub, Nat.reduceMul, Nat.reduceLeDiff, Nat.reduceLT, reduceIte, reduceCtorEq, Nat.succ_ne_zero, elemsC, Int.reduceToNat, Nat.reducePow, i0, i3]) | (simp (disch := (first | omega | (simp only [AL, List.length_map]; omega))) only [AR, AL, ifT, ifF, take_all, List.length_cons, List.length_nil, Int.reduceToNat, Int.reducePow, Nat.reducePow, i0, i3]) | (refine wk_intro (by kernel_rfl) ?_))
        first | exact ⟨.inr ⟨rfl, by omega, by omega⟩, by decide⟩ | exact ⟨by omega, by omega⟩
  · rw [decide_eq_false (by omega), decide_eq_false (by omega), Bool.or_false]
    repeat (first | (simp only [go_sem, Nat.reduceEqDiff, Nat.reduceAdd, Nat.reduceSub, Nat.reduceMul, Nat.reduceLeDiff, Nat.reduceLT, reduceIte, reduceCtorEq, Nat.succ_ne_zero, elemsC, Int.reduceToNat, Nat.reducePow, i0, i3]) | (simp (disch := (first | omega | (simp only [AL, List.length_map]; omega))) only [AR, AL, ifT, ifF, take_all, List.length_cons, List.length_nil, Int.reduceToNat, Int.reducePow, Nat.reducePow, i0, i3]) | (refine wk_intro (by kernel_rfl) ?_))
theorem tk_e : ∀ j : Nat, tk 2 4 j = Ex.tm 1 (j + 1)
  | 0 => by decide +kernel
  | j + 1 => by
    have ih := tk_e j
    show tk 2 4 j * 2 * ((1 : Nat) : Rat) / ((4 + 2 * j : Nat) : Rat) = Ex.tm 1 (j + 1) * 1 / ((j + 1 + 1 : Nat) : Rat)
    rw [ih]
    have e : ((4 + 2 * j : Nat) : Rat) = 2 * ((j + 1 + 1 : Nat) : Rat) := by
      rw [show 4 + 2 * j = 2 * (j + 1 + 1) by omega, Ex.castmul]; rfl
    have c : ((j + 1 + 1 : Nat) : Rat) ≠ 0 := Ex.nsucc_ne (j + 1)
    rw [e, show ((1 : Nat) : Rat) = 1 from rfl]
    generalize ((j + 1 + 1 : Nat) : Rat) = z at *
    have h1 : 2 * z ≠ 0 := fun h => by rcases Rat.mul_eq_zero.1 h with h | h; exact absurd h (by decide); exact c h
    have a := Rat.div_mul_cancel (a := Ex.tm 1 (j + 1) * 2 * 1) h1
    have b := Rat.div_mul_cancel (a := Ex.tm 1 (j + 1) * 1) c
    generalize Ex.tm 1 (j + 1) * 2 * 1 / (2 * z) = p at *
    generalize Ex.tm 1 (j + 1) * 1 / z = q at *
    have : (p - q) * z = 0 := by grind
    rcases Rat.mul_eq_zero.1 this with h | h
    · grind
    · exact absurd h c
theorem sk_e : ∀ j : Nat, sk 2 4 j + 1 = Ex.E 1 (j + 1)
  | 0 => by decide +kernel
  | j + 1 => by
    have ih := sk_e j
    show sk 2 4 j + tk 2 4 j + 1 = Ex.E 1 (j + 1) + Ex.tm 1 (j + 1)
    rw [tk_e, ← ih]; grind
theorem igV_e {s : Rat} {L : Nat} (hL : 1 ≤ L) : 1 - evX (-1) L ≤ igV 2 s 1 L ∧ igV 2 s 1 L ≤ 1 - evX (-1) L + Ex.tm 1 L := by
  have e1 : igC 2 s = 1 := rfl
  have e2 : tk (1 * 2) (2 + 2 % 2) (2 / 2) = 1 := by decide +kernel
  have ev : evX (-1) L = 1 / Ex.E 1 L := by
    unfold evX
    rw [if_pos (by decide), show (- -1 : Rat) = 1 by decide +kernel]
  have one := E_one (x := 1) (by decide) hL
  have iv : Ex.E 1 L * (1 / Ex.E 1 L) = 1 := Ex.mul_div _ 1 (by grind)
  have i0 : 0 ≤ 1 / Ex.E 1 L := Ex.div_nn (by decide) (by grind)
  have i1 : 1 / Ex.E 1 L ≤ 1 := by
    have := Rat.mul_le_mul_of_nonneg_right one i0
    rw [iv, Rat.one_mul] at this; exact this
  have hk := sk_e L
  have t0 := Ex.tm_nn (x := 1) (by decide) L
  have e3 : igV 2 s 1 L = (Ex.E 1 L + Ex.tm 1 L - 1) * (1 / Ex.E 1 L) := by
    unfold igV
    rw [e1, e2, ev, show (1 : Rat) * 2 = 2 by decide +kernel, show 2 + 2 = 4 from rfl]
    have : Ex.E 1 (L + 1) = Ex.E 1 L + Ex.tm 1 L := rfl
    rw [this] at hk
    rw [show sk 2 4 L = Ex.E 1 L + Ex.tm 1 L - 1 by grind]
    grind
  rw [e3, ev]
  generalize 1 / Ex.E 1 L = i at *
  have k : (Ex.E 1 L + Ex.tm 1 L - 1) * i = 1 - i + Ex.tm 1 L * i := by
    have : (Ex.E 1 L + Ex.tm 1 L - 1) * i = Ex.E 1 L * i - i + Ex.tm 1 L * i := by grind
    rw [this, iv]
  rw [k]
  have m1 := Rat.mul_nonneg t0 i0
  have m2 := Rat.mul_le_mul_of_nonneg_left i1 t0
  constructor <;> grind
theorem known11 : Go.Ev.Fn CX 18 [] (.bool true) := by
  have i1 := ref2_Int 1 (by omega)
  have im := ref2_Int (-1) (by omega)
  have z1 := int_szR (n := (1 : Int)) (by omega)
  have zm := int_szR (n := (-1 : Int)) (by omega)
  rw [show ((1 : Int) : Rat) = 1 from rfl] at i1 z1
  rw [show ((-1 : Int) : Rat) = -1 from rfl] at im zm
  obtain ⟨l, h, lo, hi, fp, lh, zl, zh, thin, l0, lhh, l1, l2, en⟩ := incg_P (n := 2) (pI := 20) (P := 20) (RatA_mono (RatA_rv z1) (by omega)) (by decide) (by decide) (by omega) (by omega) (.inr rfl) (by omega)
  obtain ⟨m, lm, fe, s, hs⟩ := ref6_Exp1 (RatA_rv zm)
  obtain ⟨L0, hL⟩ := en lo Rat.le_refl lhh
  have P := p2_pos 60
  have l6 : (lim (2 ^ 60)).length ≤ 2 := lim_len_lt (by decide)
  have lm1 := lim_len_add (a := m) (b := 1) (L := 40) lm (by have := lim_len1; omega)
  have zq1 : szR (mkRat (m : Int) (2 ^ 60)) 41 := szR_nat (by omega) (by omega) (by omega)
  have zq2 : szR (mkRat ((m + 1 : Nat) : Int) (2 ^ 60)) 41 := szR_nat (by omega) (by omega) (by omega)
  have q : ∀ L, s ≤ L → mkRat (m : Int) (2 ^ 60) ≤ evX (-1) L ∧ evX (-1) L ≤ mkRat ((m + 1 : Nat) : Int) (2 ^ 60) := fun L h => mk_in (hs L h)
  have o := ref4_Of (RatA_rv z1) (by omega)
  generalize mkRat (m : Int) (2 ^ 60) = q1 at *
  generalize mkRat ((m + 1 : Nat) : Int) (2 ^ 60) = q2 at *
  have sb := ref4_SubI z1 z1 zq1 zq2 (by omega) (by omega) (by omega)
  have c1 : 1 - q2 ≤ h := by
    have a := (hL (L0 + s + 1) (by omega)).2
    have b := (igV_e (s := lo) (L := L0 + s + 1) (by omega)).1
    have c := (q (L0 + s + 1) (by omega)).2
    grind
  have c2 : l ≤ 1 - q1 := by
    refine Rat.not_lt.1 fun g => ?_
    obtain ⟨N, hN⟩ := Ex.tm_small (y := 1) (by decide) (show 0 < l - (1 - q1) by grind)
    have t := (hN (L0 + s + 1 + N) (by omega)).2
    have t0 := Ex.tm_pos (x := 1) (by decide) (L0 + s + 1 + N)
    have a := (hL (L0 + s + 1 + N) (by omega)).1
    have b := (igV_e (s := lo) (L := L0 + s + 1 + N) (by omega)).2
    have c := (q (L0 + s + 1 + N) (by omega)).1
    grind
  have gd := ref4_Good (p := 20) (P := 20) (.inr rfl) (by omega) zl zh (szR_sub z1 zq2 (by omega)) (szR_sub z1 zq1 (by omega)) (by omega) (by omega) (by omega) lh c1 c2 thin
  clear q hs en hL c1 c2
  generalize 1 - q1 = y1 at *
  generalize 1 - q2 = y2 at *
  have fp' : Go.Ev.Fn CX 16 [.int .i64 2, rv 1, .int .i64 20] (.tup [ballR l h, .bool true]) := fp
  generalize (1 : Rat) = one at *
  refine Go.Ev.Fn.intro (fn := Tryz.f18) (body := (Tryz.f18).body.get!) (by kernel_rfl) (by kernel_rfl) (by kernel_rfl) (fun _ => rfl) (Nat.le_of_ble_eq_true (by kernel_rfl)) ?_; unfold Tryz.f18; simp only [Option.get!_some]
  repeat (first | (simp only [go_sem, Nat.reduceEqDiff, Nat.reduceAdd, Nat.reduceSub, Nat.reduceMul, Nat.reduceLeDiff, Nat.reduceLT, reduceIte, reduceCtorEq, Nat.succ_ne_zero, elemsC, Int.reduceToNat, Nat.reducePow]) | (simp (disch := (first | omega | (simp only [AL, List.length_map]; omega))) only [AR, AL, ifT, ifF, take_all, List.length_cons, List.length_nil, Int.reduceToNat, Int.reducePow, Nat.reducePow]) | (refine wk_intro (by kernel_rfl) ?_) | (refine vp_draw (id := 3) (l := []) (by kernel_rfl) ?_) | (refine vf_of (by first | exact i1 | exact fp' | exact im | exact fe | exact o | exact sb | exact gd) ?_))
end Go.Proofs.YtemnjalaincijaaGreat
namespace Go.Proofs.YtemnjalaincijaaGreat
open Go.Ev
section
variable {v : SV} {x : Rat} {n : Nat} {p : Int} {P : Nat} {s : Bool} {N D : List Nat}
end
theorem rat_split (x : Rat) : (x < 0 ∨ 64 < x) ∨ (0 ≤ x ∧ x ≤ 64) := by
  by_cases h : x < 0
  · exact .inl (.inl h)
  · by_cases h2 : 64 < x
    · exact .inl (.inr h2)
    · exact .inr ⟨Rat.not_lt.1 h, Rat.not_lt.1 h2⟩
section
variable {v : SV} {x : Rat} {n : Nat} {p : Int} {P : Nat} {s : Bool} {N D : List Nat}
end
end Go.Proofs.YtemnjalaincijaaGreat
namespace Go.Proofs.YtemnjalaincijaaGreat
open Go.Ev
section
variable {v : SV} {x : Rat} {w n : Nat}
end
end Go.Proofs.YtemnjalaincijaaGreat
namespace Go.Proofs.YtemnjalaincijaaGreat
open Go.Ev
section
variable {v vs : SV} {z s : Rat} {w p C1 C2 : Nat} {neg : Bool}
end
end Go.Proofs.YtemnjalaincijaaGreat
namespace Go.Proofs.YtemnjalaincijaaGreat
open Go.Ev
section
variable {v : SV} {z : Rat} {p : Int} {P : Nat} {s : Bool} {N D : List Nat}
end
end Go.Proofs.YtemnjalaincijaaGreat
namespace Go.Proofs.YtemnjalaincijaaGreat
open Go.Ev
theorem ref4_SideLe {a b c d : Rat} {L M : Nat} (ha : szR a L) (hb : szR b L) (hc : szR c M) (hd : szR d M) (hL1 : 1 ≤ L) (hM1 : 1 ≤ M) (hL : L + M ≤ 100000) (h : a ≤ d) : ∃ k : Int, k ≤ 0 ∧ -1 ≤ k ∧ Go.Ev.Fn CX 19 [ballR a b, ballR c d] (.int .i64 k) := by
  have c1 := ref2_Cmp (RatA_rv hb) (RatA_rv hc) hL1 hM1 (by omega)
  have c2 := ref2_Cmp (RatA_rv ha) (RatA_rv hd) hL1 hM1 (by omega)
  have e2 : decide (cmpR a d > 0) = false := by rw [cmpR_gt]; exact decide_eq_false (Rat.not_lt.2 h)
  by_cases g : b < c
  · have e1 : decide (cmpR b c < 0) = true := by rw [cmpR_lt]; exact decide_eq_true g
    refine ⟨-1, by omega, by omega, ?_⟩
    clear g h
    generalize cmpR b c = y1 at *
    generalize cmpR a d = y2 at *
    refine Go.Ev.Fn.intro (fn := Tryz.f19) (body := (Tryz.f19).body.get!) (by kernel_rfl) (by kernel_rfl) (by kernel_rfl) (fun _ => rfl) (Nat.le_of_ble_eq_true (by kernel_rfl)) ?_; unfold Tryz.f19; simp only [Option.get!_some]
    repeat (first | (simp only [go_sem, Nat.reduceEqDiff, Nat.reduceAdd, Nat.reduceSub, Nat.reduceMul, Nat.reduceLeDiff, Nat.reduceLT, reduceIte, reduceCtorEq, Nat.succ_ne_zero, elemsC, Int.reduceToNat, Nat.reducePow, e1, e2]) | (simp (disch := (first | omega | (simp only [AL, List.length_map]; omega))) only [AR, AL, ifT, ifF, take_all, List.length_cons, List.length_nil, Int.reduceToNat, Int.reducePow, Nat.reducePow, e1, e2]) | (refine wk_intro (by kernel_rfl) ?_) | (refine vf_of (by first | exact c1) ?_))
  · have e1 : decide (cmpR b c < 0) = false := by rw [cmpR_lt]; exact decide_eq_false g
    refine ⟨0, by omega, by omega, ?_⟩
    clear g h
    generalize cmpR b c = y1 at *
    generalize cmpR a d = y2 at *
    refine Go.Ev.Fn.intro (fn := Tryz.f19) (body := (Tryz.f19).body.get!) (by kernel_rfl) (by kernel_rfl) (by kernel_rfl) (fun _ => rfl) (Nat.le_of_ble_eq_true (by kernel_rfl)) ?_; unfold Tryz.f19; simp only [Option.get!_some]
    repeat (first | (simp only [go_sem, Nat.reduceEqDiff, Nat.reduceAdd, Nat.reduceSub, Nat.reduceMul, Nat.reduceLeDiff, Nat.reduceLT, reduceIte, reduceCtorEq, Nat.succ_ne_zero, elemsC, Int.reduceToNat, Nat.reducePow, e1, e2]) | (simp (disch := (first | omega | (simp only [AL, List.length_map]; omega))) only [AR, AL, ifT, ifF, take_all, List.length_cons, List.length_nil, Int.reduceToNat, Int.reducePow, Nat.reducePow, e1, e2]) | (refine wk_intro (by kernel_rfl) ?_) | (refine vf_of (by first | exact c1 | exact c2) ?_))
section
variable {P : Nat} {s t : Bool} {N D M E : List Nat}
variable {x y : Rat} {p : Int}
end
end Go.Proofs.YtemnjalaincijaaGreat
namespace Go.Proofs.YtemnjalaincijaaGreat
open Go.Ev
section
variable {v : SV} {x : Rat} {n P : Nat} {p : Int} {s : Bool} {N D : List Nat}
theorem pos_split {g C : Rat} (hg : 0 < g) (hC : 0 < C) : ∃ e d : Rat, 0 < e ∧ 0 < d ∧ e + e + C * d < g := by
  have e4 : g / 4 * 4 = g := Rat.div_mul_cancel (by decide)
  have i4 : 0 < g / 4 := by rw [Rat.div_def]; exact Rat.mul_pos hg (by decide +kernel)
  have dC : g / 4 / C * C = g / 4 := Rat.div_mul_cancel (by grind)
  have iC : 0 < g / 4 / C := by rw [Rat.div_def (g / 4)]; exact Rat.mul_pos i4 (Rat.inv_pos.2 hC)
  refine ⟨g / 4, g / 4 / C, i4, iC, ?_⟩
  generalize g / 4 / C = d at *
  generalize g / 4 = e at *
  grind
theorem min8 {x lo hi : Rat} (l0 : 0 ≤ lo) (lh : lo ≤ hi) (l1 : lo * lo ≤ x) (l2 : x ≤ hi * hi) (h64 : x ≤ 64) : ∃ h : Rat, lo ≤ h ∧ h ≤ hi ∧ h ≤ 8 ∧ x ≤ h * h := by
  have lo8 : lo ≤ 8 := sq_mono l0 (by decide) (Rat.le_trans l1 (Rat.le_trans h64 (by decide +kernel)))
  rcases Rat.le_total (a := hi) (b := 8) with g | g
  · exact ⟨hi, lh, Rat.le_refl, g, l2⟩
  · exact ⟨8, lo8, g, Rat.le_refl, Rat.le_trans h64 (by decide +kernel)⟩
theorem falls_balls (hv : RatA v x 7) (h0 : 0 ≤ x) (h64 : x ≤ 64) (hn : 1 ≤ n) (hn2 : n ≤ 28) (hP : P ≤ 60) : ∃ a b c d : Rat, Go.Ev.Fn CX 16 [.int .i64 (n : Int), v, .int .i64 (P : Int)] (.tup [ballR a b, .bool true]) ∧ Go.Ev.Fn CX 16 [.int .i64 ((n : Int) + 1), v, .int .i64 (P : Int)] (.tup [ballR c d, .bool true]) ∧
    szR a 400 ∧ szR b 400 ∧ szR c 400 ∧ szR d 400 ∧ c ≤ b := by
  by_cases e : x = 0
  · subst e
    have z0 : szR 0 400 := szR_zero (by omega)
    exact ⟨0, 0, 0, 0, incg_Pzero hv (by omega) (by omega), incg_Pzero hv (by omega) (by omega), z0, z0, z0, z0, Rat.le_refl⟩
  obtain ⟨a, b, lo1, hi1, f1, ab, z1, z2, -, l0, lh, l1, l2, en1⟩ := incg_P (n := n) (pI := (P : Int)) (P := P) hv (by grind) h64 hn (by omega) (.inr rfl) (by omega)
  obtain ⟨c, d, lo2, hi2, f2, cd, z3, z4, -, k0, kh, k1, k2, en2⟩ := incg_P (n := n + 1) (pI := (P : Int)) (P := P) hv (by clear en1; grind) h64 (by omega) (by omega) (.inr rfl) (by omega)
  rw [show ((n + 1 : Nat) : Int) = (n : Int) + 1 from rfl] at f2
  refine ⟨a, b, c, d, f1, f2, z1, z2, z3, z4, Rat.not_lt.1 fun gap => ?_⟩
  clear f1 f2 z1 z2 z3 z4
  obtain ⟨C, hC⟩ : ∃ C : Rat, C = 32 * Ex.t2 102 := ⟨_, rfl⟩
  have Cp : 0 < C := by have := Ex.t2_pos 102; clear en1 en2; grind
  obtain ⟨e, dl, e0, d0, sum⟩ := pos_split (show 0 < c - b by clear en1 en2; grind) Cp
  obtain ⟨Nc, core⟩ := falls_core hn e0 (fall_64 hn hn2)
  rcases Nat.mod_two_eq_zero_or_one n with h | h
  · obtain ⟨Ne, ev⟩ := even_rises h e0
    obtain ⟨h', m1, m2, m3, m4⟩ := min8 k0 kh k1 k2 h64
    obtain ⟨t, t2, q1, q2, q3, q4, q5, q6⟩ := root_near k0 m1 k1 m4 d0
    have t0 : 0 ≤ t := Rat.le_trans k0 q1
    have t8 : t ≤ 8 := Rat.le_trans q2 (Rat.le_trans q3 m3)
    obtain ⟨L1, g1⟩ := en1 lo1 Rat.le_refl lh
    obtain ⟨L2, g2⟩ := en2 t q1 (Rat.le_trans q2 (Rat.le_trans q3 m2))
    have a1 := (g2 (L1 + L2 + Nc + Ne + 1) (by omega)).1
    have a2 := odd_lip (n := n + 1) (x := t * t) (y := x) (s := t) (L := L1 + L2 + Nc + Ne + 1) (by omega) (Rat.mul_nonneg t0 t0) q4 h64 t0 t8 (by omega)
    have a3 := core (L1 + L2 + Nc + Ne + 1) (by omega) t t0 t8
    have a4 := ev (L1 + L2 + Nc + Ne + 1) (by omega) (t * t) x t lo1 (Rat.mul_nonneg t0 t0) q4 h64
    have a5 := (g1 (L1 + L2 + Nc + Ne + 1) (by omega)).2
    have a6 := Rat.mul_le_mul_of_nonneg_left (show x - t * t ≤ dl by clear en1 en2 g1 g2 core ev; grind) (Rat.le_of_lt Cp)
    rw [← hC] at a2
    generalize igV (n + 1) t x (L1 + L2 + Nc + Ne + 1) = V1 at *
    generalize igV (n + 1) t (t * t) (L1 + L2 + Nc + Ne + 1) = V2 at *
    generalize igV n t (t * t) (L1 + L2 + Nc + Ne + 1) = V3 at *
    generalize igV n lo1 x (L1 + L2 + Nc + Ne + 1) = V4 at *
    clear en1 en2 g1 g2 core ev
    grind
  · obtain ⟨Ne, ev⟩ := even_rises (n := n + 1) (by omega) e0
    obtain ⟨h', m1, m2, m3, m4⟩ := min8 l0 lh l1 l2 h64
    obtain ⟨t2, t, q1, q2, q3, q4, q5, q6⟩ := root_near l0 m1 l1 m4 d0
    have t0 : 0 ≤ t := Rat.le_trans l0 (Rat.le_trans q1 q2)
    have t8 : t ≤ 8 := Rat.le_trans q3 m3
    have tt : t * t ≤ 64 := by have := (sq_bd t0 t8).2; exact this
    obtain ⟨L1, g1⟩ := en1 t (Rat.le_trans q1 q2) (Rat.le_trans q3 m2)
    obtain ⟨L2, g2⟩ := en2 lo2 Rat.le_refl kh
    have a1 := (g2 (L1 + L2 + Nc + Ne + 1) (by omega)).1
    have a2 := odd_lip (n := n) (x := x) (y := t * t) (s := t) (L := L1 + L2 + Nc + Ne + 1) h h0 q5 tt t0 t8 (by omega)
    have a3 := core (L1 + L2 + Nc + Ne + 1) (by omega) t t0 t8
    have a4 := ev (L1 + L2 + Nc + Ne + 1) (by omega) x (t * t) lo2 t h0 q5 tt
    have a5 := (g1 (L1 + L2 + Nc + Ne + 1) (by omega)).2
    have a6 := Rat.mul_le_mul_of_nonneg_left (show t * t - x ≤ dl by clear en1 en2 g1 g2 core ev; grind) (Rat.le_of_lt Cp)
    rw [← hC] at a2
    generalize igV (n + 1) lo2 x (L1 + L2 + Nc + Ne + 1) = V1 at *
    generalize igV (n + 1) t (t * t) (L1 + L2 + Nc + Ne + 1) = V2 at *
    generalize igV n t (t * t) (L1 + L2 + Nc + Ne + 1) = V3 at *
    generalize igV n t x (L1 + L2 + Nc + Ne + 1) = V4 at *
    clear en1 en2 g1 g2 core ev
    grind
theorem ifall_out {n : Int} (hN : N.length ≤ 9223372036854775807) (hD : D.length ≤ 9223372036854775807) (hn : -9223372036854775808 ≤ n ∧ n < 9223372036854775808) (hp : -9223372036854775808 ≤ p ∧ p < 9223372036854775808)
    (h : 3 < N.length ∨ 3 < D.length ∨ p < 0 ∨ 60 < p ∨ n < 1 ∨ 28 < n) : Go.Ev.Fn CX 3 [.int .i64 n, ratV s N D, .int .i64 p] (.bool true) := by
  have bg := law11_big s N D hN hD
  by_cases c0 : 3 < N.length ∨ 3 < D.length
  · rw [show (decide (3 < N.length) || decide (3 < D.length)) = true by rw [← Bool.decide_or]; exact decide_eq_true c0] at bg
    refine Go.Ev.Fn.intro (fn := Tryz.f3) (body := (Tryz.f3).body.get!) (by kernel_rfl) (by kernel_rfl) (by kernel_rfl) (fun _ => rfl) (Nat.le_of_ble_eq_true (by kernel_rfl)) ?_; unfold Tryz.f3; simp only [Option.get!_some]
    repeat (first | (simp only [go_sem, Nat.reduceEqDiff, Nat.reduceAdd, Nat.reduceSub, Nat.reduceMul, Nat.reduceLeDiff, Nat.reduceLT, reduceIte, reduceCtorEq, Nat.succ_ne_zero, elemsC, Int.reduceToNat, Nat.reducePow]) | (simp (disch := (first | omega | (simp only [AL, List.length_map]; omega))) only [AR, AL, ifT, ifF, take_all, List.length_cons, List.length_nil, Int.reduceToNat, Int.reducePow, Nat.reducePow]) | (refine wk_intro (by kernel_rfl) ?_) | (refine vf_of (by first | exact bg) ?_))
  rw [show (decide (3 < N.length) || decide (3 < D.length)) = false by rw [← Bool.decide_or]; exact decide_eq_false c0] at bg
  by_cases c1 : p < 0
  · refine Go.Ev.Fn.intro (fn := Tryz.f3) (body := (Tryz.f3).body.get!) (by kernel_rfl) (by kernel_rfl) (by kernel_rfl) (fun _ => rfl) (Nat.le_of_ble_eq_true (by kernel_rfl)) ?_; unfold Tryz.f3; simp only [Option.get!_some]
    repeat (first | (simp only [go_sem, Nat.reduceEqDiff, Nat.reduceAdd, Nat.reduceSub, Nat.reduceMul, Nat.reduceLeDiff, Nat.reduceLT, reduceIte, reduceCtorEq, Nat.succ_ne_zero, elemsC, Int.reduceToNat, Nat.reducePow]) | (simp (disch := (first | omega | (simp only [AL, List.length_map]; omega))) only [AR, AL, ifT, ifF, take_all, List.length_cons, List.length_nil, Int.reduceToNat, Int.reducePow, Nat.reducePow]) | (refine wk_intro (by kernel_rfl) ?_) | (refine vf_of (by first | exact bg) ?_))
  by_cases c2 : 60 < p
  · refine Go.Ev.Fn.intro (fn := Tryz.f3) (body := (Tryz.f3).body.get!) (by kernel_rfl) (by kernel_rfl) (by kernel_rfl) (fun _ => rfl) (Nat.le_of_ble_eq_true (by kernel_rfl)) ?_; unfold Tryz.f3; simp only [Option.get!_some]
    repeat (first | (simp only [go_sem, Nat.reduceEqDiff, Nat.reduceAdd, Nat.reduceSub, Nat.reduceMul, Nat.reduceLeDiff, Nat.reduceLT, reduceIte, reduceCtorEq, Nat.succ_ne_zero, elemsC, Int.reduceToNat, Nat.reducePow]) | (simp (disch := (first | omega | (simp only [AL, List.length_map]; omega))) only [AR, AL, ifT, ifF, take_all, List.length_cons, List.length_nil, Int.reduceToNat, Int.reducePow, Nat.reducePow]) | (refine wk_intro (by kernel_rfl) ?_) | (refine vf_of (by first | exact bg) ?_))
  by_cases c3 : n < 1
  · refine Go.Ev.Fn.intro (fn := Tryz.f3) (body := (Tryz.f3).body.get!) (by kernel_rfl) (by kernel_rfl) (by kernel_rfl) (fun _ => rfl) (Nat.le_of_ble_eq_true (by kernel_rfl)) ?_; unfold Tryz.f3; simp only [Option.get!_some]
    repeat (first | (simp only [go_sem, Nat.reduceEqDiff, Nat.reduceAdd, Nat.reduceSub, Nat.reduceMul, Nat.reduceLeDiff, Nat.reduceLT, reduceIte, reduceCtorEq, Nat.succ_ne_zero, elemsC, Int.reduceToNat, Nat.reducePow]) | (simp (disch := (first | omega | (simp only [AL, List.length_map]; omega))) only [AR, AL, ifT, ifF, take_all, List.length_cons, List.length_nil, Int.reduceToNat, Int.reducePow, Nat.reducePow]) | (refine wk_intro (by kernel_rfl) ?_) | (refine vf_of (by first | exact bg) ?_))
  · have c4 : 28 < n := by omega
    refine Go.Ev.Fn.intro (fn := Tryz.f3) (body := (Tryz.f3).body.get!) (by kernel_rfl) (by kernel_rfl) (by kernel_rfl) (fun _ => rfl) (Nat.le_of_ble_eq_true (by kernel_rfl)) ?_; unfold Tryz.f3; simp only [Option.get!_some]
    repeat (first | (simp only [go_sem, Nat.reduceEqDiff, Nat.reduceAdd, Nat.reduceSub, Nat.reduceMul, Nat.reduceLeDiff, Nat.reduceLT, reduceIte, reduceCtorEq, Nat.succ_ne_zero, elemsC, Int.reduceToNat, Nat.reducePow]) | (simp (disch := (first | omega | (simp only [AL, List.length_map]; omega))) only [AR, AL, ifT, ifF, take_all, List.length_cons, List.length_nil, Int.reduceToNat, Int.reducePow, Nat.reducePow]) | (refine wk_intro (by kernel_rfl) ?_) | (refine vf_of (by first | exact bg) ?_))
theorem ifall_bad {n : Int} (h1 : N.length ≤ 3) (h2 : D.length ≤ 3) (hn : 1 ≤ n ∧ n ≤ 28) (hp : 0 ≤ p ∧ p ≤ 60)
    (f1 : Go.Ev.Fn CX 16 [.int .i64 n, ratV s N D, .int .i64 p] (.tup [ballR 0 0, .bool false])) (f2 : Go.Ev.Fn CX 17 [.int .i64 n, ratV s N D, .int .i64 0] (.tup [ballR 0 0, .bool false]))
    (f3 : Go.Ev.Fn CX 16 [.int .i64 (n + 1), ratV s N D, .int .i64 p] (.tup [ballR 0 0, .bool false])) :
    Go.Ev.Fn CX 3 [.int .i64 n, ratV s N D, .int .i64 p] (.bool true) := by
  have bg := law11_big s N D (by omega) (by omega)
  rw [decide_eq_false (by omega), decide_eq_false (by omega), Bool.or_false] at bg
  have kn := known11
  refine Go.Ev.Fn.intro (fn := Tryz.f3) (body := (Tryz.f3).body.get!) (by kernel_rfl) (by kernel_rfl) (by kernel_rfl) (fun _ => rfl) (Nat.le_of_ble_eq_true (by kernel_rfl)) ?_; unfold Tryz.f3; simp only [Option.get!_some]
  repeat (first | (simp only [go_sem, Nat.reduceEqDiff, Nat.reduceAdd, Nat.reduceSub, Nat.reduceMul, Nat.reduceLeDiff, Nat.reduceLT, reduceIte, reduceCtorEq, Nat.succ_ne_zero, elemsC, Int.reduceToNat, Nat.reducePow, Bool.not_false]) | (simp (disch := (first | omega | (simp only [AL, List.length_map]; omega))) only [AR, AL, ifT, ifF, take_all, List.length_cons, List.length_nil, Int.reduceToNat, Int.reducePow, Nat.reducePow, Bool.not_false]) | (refine wk_intro (by kernel_rfl) ?_) | (refine vf_of (by first | exact bg | exact f1 | exact f3 | exact f2 | exact kn) ?_))
theorem ifall_good (hv : RatA (ratV s N D) x 7) (h1 : N.length ≤ 3) (h2 : D.length ≤ 3) (h0 : 0 ≤ x) (h64 : x ≤ 64) (hn : 1 ≤ n) (hn2 : n ≤ 28) (hP : P ≤ 60) : Go.Ev.Fn CX 3 [.int .i64 (n : Int), ratV s N D, .int .i64 (P : Int)] (.bool true) := by
  have bg := law11_big s N D (by omega) (by omega)
  rw [decide_eq_false (by omega), decide_eq_false (by omega), Bool.or_false] at bg
  have kn := known11
  obtain ⟨a, b, c, d, f1, f2, z1, z2, z3, z4, g⟩ := falls_balls (P := P) hv h0 h64 hn hn2 hP
  obtain ⟨k, k1, k2, sd⟩ := ref4_SideLe z3 z4 z1 z2 (by omega) (by omega) (by omega) g
  clear g z1 z2 z3 z4 h0 h64 hv
  refine Go.Ev.Fn.intro (fn := Tryz.f3) (body := (Tryz.f3).body.get!) (by kernel_rfl) (by kernel_rfl) (by kernel_rfl) (fun _ => rfl) (Nat.le_of_ble_eq_true (by kernel_rfl)) ?_; unfold Tryz.f3; simp only [Option.get!_some]
  repeat (first | (simp only [go_sem, Nat.reduceEqDiff, Nat.reduceAdd, Nat.reduceSub, Nat.reduceMul, Nat.reduceLeDiff, Nat.reduceLT, reduceIte, reduceCtorEq, Nat.succ_ne_zero, elemsC, Int.reduceToNat, Nat.reducePow, Bool.not_true]) | (simp (disch := (first | omega | (simp only [AL, List.length_map]; omega))) only [AR, AL, ifT, ifF, take_all, List.length_cons, List.length_nil, Int.reduceToNat, Int.reducePow, Nat.reducePow, Bool.not_true]) | (refine wk_intro (by kernel_rfl) ?_) | (refine vf_of (by first | exact bg | exact f1 | exact f2 | exact sd | exact kn) ?_))
end
set_option maxRecDepth 100000 in
theorem ifall_law (n : Int) (w0 : (Lit.int .i64 n).wf = true) (ss1 : List SV) (sh1 : ShpT Tryz.prog 6 24 ss1) (p : Int) (w2 : (Lit.int .i64 p).wf = true) :
    Go.Ev.Fn CX 3 [.int .i64 n, .agg ss1, .int .i64 p] (.bool true) := by
  obtain ⟨s, N, D, rfl, hN, hD, lN, lD⟩ := shp_rat (n := 3) sh1
  have r0 := wf_int64E w0
  have r2 := wf_int64E w2
  have mx : maxLen ≤ 9223372036854775807 := by decide
  by_cases c : 3 < N.length ∨ 3 < D.length ∨ p < 0 ∨ 60 < p ∨ n < 1 ∨ 28 < n
  · exact ifall_out (Nat.le_trans lN mx) (Nat.le_trans lD mx) r0 r2 c
  have c1 : N.length ≤ 3 := Nat.not_lt.1 fun h => c (.inl h)
  have c2 : D.length ≤ 3 := Nat.not_lt.1 fun h => c (.inr (.inl h))
  obtain ⟨x, hv⟩ : ∃ x : Rat, RatA (ratV s N D) x 7 := ⟨_, s, N, D, rfl, hN, hD, by omega, by omega, rfl⟩
  rcases rat_split x with h | ⟨h0, h64⟩
  · exact ifall_bad c1 c2 (by omega) (by omega) (incg_Pout hv r0 (.inr (.inr h))) (ref11_Pout hv r0 (.inr (.inr h))) (incg_Pout hv (by omega) (.inr (.inr h)))
  · obtain ⟨m, rfl⟩ : ∃ m : Nat, n = (m : Int) := ⟨n.toNat, by omega⟩
    obtain ⟨P, rfl⟩ : ∃ P : Nat, p = (P : Int) := ⟨p.toNat, by omega⟩
    exact ifall_good hv c1 c2 h0 h64 (by omega) (by omega) (by omega)
end Go.Proofs.YtemnjalaincijaaGreat
