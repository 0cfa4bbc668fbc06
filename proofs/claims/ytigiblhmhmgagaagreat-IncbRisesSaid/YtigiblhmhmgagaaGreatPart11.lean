/- Part 11 of the proof: the evaluator, contracts of functions and their plain laws (joined by program). No condition. -/
import Derived.Test.YtigiblhmhmgagaaGreatPart10
/- At a half both shares are all: plain mathematics; the kernel reckons the pairs of halves. -/
namespace Go.Proofs.YtigiblhmhmgagaaGreat
open Go.Ev
set_option linter.unusedVariables false
/-- The root of a half, times 2 to 700, rounded up. -/
def rtH : Nat := 3719477765947668636936709211380910309956202648775464111520847020716952850542838341847190855169739343470753519934912401374452868910734655781951726854669216251345409387637183634523568089081173655040240750070105177
def S2 : Rat := mkRat (rtH : Int) (2 ^ 700)
/-- The row's terms and their sum at a half, over one number. -/
def hfGo (a b : Nat) : Nat → Nat → Nat → Nat → Nat → Nat × Nat × Nat
  | 0, _, n, d, s => (n, d, s)
  | f + 1, k, n, d, s => pin (n * (a + b + 2 * k)) fun n' => pin (2 * (a + 2 + 2 * k)) fun m => pin (d * m) fun d' => pin (s * m + n') fun s' => pin (k + 1) fun k' => hfGo a b f k' n' d' s'
theorem hfGo_is (a b : Nat) : ∀ (f k n d s : Nat), rR (1 / 2) a b k * (d : Rat) = (n : Rat) → sR (1 / 2) a b k * (d : Rat) = (s : Rat) → 0 < d →
    rR (1 / 2) a b (k + f) * ((hfGo a b f k n d s).2.1 : Rat) = ((hfGo a b f k n d s).1 : Rat) ∧ sR (1 / 2) a b (k + f) * ((hfGo a b f k n d s).2.1 : Rat) = ((hfGo a b f k n d s).2.2 : Rat) ∧ 0 < (hfGo a b f k n d s).2.1 := by
  intro f
  induction f with
  | zero => intro k n d s h1 h2 h3; exact ⟨h1, h2, h3⟩
  | succ f ih =>
    intro k n d s h1 h2 h3
    rw [hfGo]
    simp only [pin_eq]
    have c : ∀ u v : Nat, ((u * v : Nat) : Rat) = (u : Rat) * (v : Rat) := by intro u v; exact_mod_cast rfl
    have c2 : ∀ u v : Nat, ((u + v : Nat) : Rat) = (u : Rat) + (v : Rat) := by intro u v; exact_mod_cast rfl
    have M : (0 : Rat) < ((a + 2 + 2 * k : Nat) : Rat) := by exact_mod_cast (show 0 < a + 2 + 2 * k by omega)
    have r : rR (1 / 2) a b (k + 1) * ((d * (2 * (a + 2 + 2 * k)) : Nat) : Rat) = ((n * (a + b + 2 * k) : Nat) : Rat) := by
      have e : rR (1 / 2) a b (k + 1) = rR (1 / 2) a b k * (1 / 2) * ((a + b + 2 * k : Nat) : Rat) / ((a + 2 + 2 * k : Nat) : Rat) := rfl
      have e2 := Rat.div_mul_cancel (a := rR (1 / 2) a b k * (1 / 2) * ((a + b + 2 * k : Nat) : Rat)) (b := ((a + 2 + 2 * k : Nat) : Rat)) (by grind)
      rw [← e] at e2
      rw [c, c, c, ← h1]
      have two : ((2 : Nat) : Rat) = 2 := rfl
      have hh : (1 / 2 : Rat) * 2 = 1 := by decide +kernel
      rw [two]
      generalize ((a + 2 + 2 * k : Nat) : Rat) = m at *
      generalize ((a + b + 2 * k : Nat) : Rat) = q at *
      generalize rR (1 / 2) a b (k + 1) = z at *
      generalize (1 / 2 : Rat) = hf at *
      grind
    have sm : sR (1 / 2) a b (k + 1) * ((d * (2 * (a + 2 + 2 * k)) : Nat) : Rat) = ((s * (2 * (a + 2 + 2 * k)) + n * (a + b + 2 * k) : Nat) : Rat) := by
      have e : sR (1 / 2) a b (k + 1) = sR (1 / 2) a b k + rR (1 / 2) a b (k + 1) := rfl
      rw [e, c2, ← r, c s, ← h2, c d]
      generalize rR (1 / 2) a b (k + 1) = z at *
      generalize sR (1 / 2) a b k = y at *
      grind
    have := ih (k + 1) _ _ _ r sm (Nat.mul_pos h3 (by omega))
    rw [show k + 1 + f = k + (f + 1) by omega] at this
    exact this
/-- The share at a half, over one number: at least so, at most so. -/
def hfN (a b : Nat) : Nat × Nat × Nat :=
  pin ((beta2 a b).den * 2) fun D2 => pin ((beta2 a b).num.natAbs * a) fun N2 =>
  pin (rtH ^ (a % 2 + b % 2) * D2 * (if a % 2 * (b % 2) = 1 then 2 ^ 700 else 1)) fun u => pin (2 ^ (a / 2 + b / 2) * 2 ^ (700 * (a % 2 + b % 2)) * N2 * (if a % 2 * (b % 2) = 1 then piW else 1)) fun v =>
  match hfGo a b 120 0 1 1 1 with
  | (n, d, s) => pin (u * s) fun l => pin (u * (s + 3 * n)) fun h => pin (v * d) fun e => (l, h, e)
def hfOk (a b : Nat) : Bool := match hfN a b with
  | (l1, h1, e1) => match hfN b a with
    | (l2, h2, e2) => pin (l1 * e2 + l2 * e1) fun lo => pin (h1 * e2 + h2 * e1) fun hi => pin (e1 * e2) fun ee => Nat.ble ((2 ^ 66 - 1) * ee) (2 ^ 66 * lo) && Nat.ble (2 ^ 66 * hi) ((2 ^ 66 + 1) * ee)
theorem hf_ok1 : (List.range 20).all (fun j => hfOk 1 (1 + j)) = true := by decide +kernel
theorem hf_ok2 : (List.range 19).all (fun j => hfOk 2 (2 + j)) = true := by decide +kernel
theorem hf_ok3 : (List.range 18).all (fun j => hfOk 3 (3 + j)) = true := by decide +kernel
theorem hf_ok4 : (List.range 17).all (fun j => hfOk 4 (4 + j)) = true := by decide +kernel
theorem hf_ok5 : (List.range 16).all (fun j => hfOk 5 (5 + j)) = true := by decide +kernel
theorem hf_ok6 : (List.range 15).all (fun j => hfOk 6 (6 + j)) = true := by decide +kernel
theorem hf_ok7 : (List.range 14).all (fun j => hfOk 7 (7 + j)) = true := by decide +kernel
theorem hf_ok8 : (List.range 13).all (fun j => hfOk 8 (8 + j)) = true := by decide +kernel
theorem hf_ok9 : (List.range 12).all (fun j => hfOk 9 (9 + j)) = true := by decide +kernel
theorem hf_ok10 : (List.range 11).all (fun j => hfOk 10 (10 + j)) = true := by decide +kernel
theorem hf_ok11 : (List.range 10).all (fun j => hfOk 11 (11 + j)) = true := by decide +kernel
theorem hf_ok12 : (List.range 9).all (fun j => hfOk 12 (12 + j)) = true := by decide +kernel
theorem hf_ok13 : (List.range 8).all (fun j => hfOk 13 (13 + j)) = true := by decide +kernel
theorem hf_ok14 : (List.range 7).all (fun j => hfOk 14 (14 + j)) = true := by decide +kernel
theorem hf_ok15 : (List.range 6).all (fun j => hfOk 15 (15 + j)) = true := by decide +kernel
theorem hf_ok16 : (List.range 5).all (fun j => hfOk 16 (16 + j)) = true := by decide +kernel
theorem hf_ok17 : (List.range 4).all (fun j => hfOk 17 (17 + j)) = true := by decide +kernel
theorem hf_ok18 : (List.range 3).all (fun j => hfOk 18 (18 + j)) = true := by decide +kernel
theorem hf_ok19 : (List.range 2).all (fun j => hfOk 19 (19 + j)) = true := by decide +kernel
theorem hf_ok20 : (List.range 1).all (fun j => hfOk 20 (20 + j)) = true := by decide +kernel
theorem hf_all {a b : Nat} (h1 : 1 ≤ a) (h2 : a ≤ b) (h3 : b ≤ 20) : hfOk a b = true := by
  have g : ∀ c, (List.range (21 - c)).all (fun j => hfOk c (c + j)) = true → c ≤ b → hfOk c b = true := fun c h hc => by
    have := List.all_eq_true.1 h (b - c) (List.mem_range.2 (by omega))
    rwa [show c + (b - c) = b by omega] at this
  have hc : a = 1 ∨ a = 2 ∨ a = 3 ∨ a = 4 ∨ a = 5 ∨ a = 6 ∨ a = 7 ∨ a = 8 ∨ a = 9 ∨ a = 10 ∨ a = 11 ∨ a = 12 ∨ a = 13 ∨ a = 14 ∨ a = 15 ∨ a = 16 ∨ a = 17 ∨ a = 18 ∨ a = 19 ∨ a = 20 := by omega
  rcases hc with rfl | rfl | rfl | rfl | rfl | rfl | rfl | rfl | rfl | rfl | rfl | rfl | rfl | rfl | rfl | rfl | rfl | rfl | rfl | rfl
  · exact g 1 hf_ok1 h2
  · exact g 2 hf_ok2 h2
  · exact g 3 hf_ok3 h2
  · exact g 4 hf_ok4 h2
  · exact g 5 hf_ok5 h2
  · exact g 6 hf_ok6 h2
  · exact g 7 hf_ok7 h2
  · exact g 8 hf_ok8 h2
  · exact g 9 hf_ok9 h2
  · exact g 10 hf_ok10 h2
  · exact g 11 hf_ok11 h2
  · exact g 12 hf_ok12 h2
  · exact g 13 hf_ok13 h2
  · exact g 14 hf_ok14 h2
  · exact g 15 hf_ok15 h2
  · exact g 16 hf_ok16 h2
  · exact g 17 hf_ok17 h2
  · exact g 18 hf_ok18 h2
  · exact g 19 hf_ok19 h2
  · exact g 20 hf_ok20 h2
end Go.Proofs.YtigiblhmhmgagaaGreat

/- A point of any ball of a half's root, near the constant: plain mathematics. -/
namespace Go.Proofs.YtigiblhmhmgagaaGreat
open Go.Ev
set_option linter.unusedVariables false
theorem S2_mul : S2 * p2 700 = (rtH : Rat) := mk_p2n rtH 700
theorem sq_mon {x y : Rat} (hx : 0 ≤ x) (hy : 0 ≤ y) (h : x * x ≤ y * y) : x ≤ y := by
  rcases Rat.le_total (a := x) (b := y) with g | g
  · exact g
  · by_cases e : y = x
    · rw [e]; exact Rat.le_refl
    · have h1 : y < x := by grind
      have h2 : y * y ≤ x * y := Rat.mul_le_mul_of_nonneg_right g hy
      have h3 : x * y < x * x := by
        have : 0 < x * (x - y) := Rat.mul_pos (by grind) (by grind)
        grind
      grind
theorem S2_nn : 0 ≤ S2 := le_by (p2_pos 700) (by rw [S2_mul, Rat.zero_mul]; exact nat_nonneg _)
theorem cmN (a b : Nat) : ((a * b : Nat) : Rat) = (a : Rat) * (b : Rat) := by exact_mod_cast rfl
theorem cnN (a b : Nat) : ((a + b : Nat) : Rat) = (a : Rat) + (b : Rat) := by exact_mod_cast rfl
theorem S2_abs {r P Q : Nat} {S : Rat} (hP : 0 < P) (e : S * (P : Rat) = (r : Rat)) (n1 : P * P ≤ 2 * (r * r)) (n2 : Q * (2 * (r * r)) ≤ Q * (P * P) + 2 * (P * P)) : 1 / 2 ≤ S * S ∧ (S * S - 1 / 2) * (Q : Rat) ≤ 1 := by
  have P0 : (0 : Rat) < (P : Rat) := by exact_mod_cast hP
  have PP : 0 < (P : Rat) * (P : Rat) := Rat.mul_pos P0 P0
  have m1 := nat_le_rat n1
  have m2 := nat_le_rat n2
  have d1 : ((2 * (r * r) : Nat) : Rat) = 2 * ((r : Rat) * (r : Rat)) := by exact_mod_cast rfl
  have d2 : ((2 * (P * P) : Nat) : Rat) = 2 * ((P : Rat) * (P : Rat)) := by exact_mod_cast rfl
  rw [cmN, d1, ← e] at m1
  rw [cmN, cnN, cmN Q, d1, d2, cmN P, ← e] at m2
  have q : S * (P : Rat) * (S * (P : Rat)) = S * S * ((P : Rat) * (P : Rat)) := by grind
  rw [q] at m1 m2
  clear q n1 n2 d1 d2 e hP P0
  generalize (P : Rat) * (P : Rat) = Z at *
  generalize S * S = t at *
  generalize (Q : Rat) = u at *
  have hh : (1 / 2 : Rat) * 2 = 1 := by decide +kernel
  generalize (1 / 2 : Rat) = hf at *
  have f1 : hf * Z * 2 = Z := by
    have : hf * Z * 2 = hf * 2 * Z := by grind
    rw [this, hh, Rat.one_mul]
  have f2 : (t - hf) * u * Z * 2 = u * (2 * (t * Z)) - u * (hf * Z * 2) := by grind
  refine ⟨le_by PP ?_, le_by PP ?_⟩
  · grind
  · rw [f1] at f2
    grind
theorem S2_sq : 1 / 2 ≤ S2 * S2 ∧ (S2 * S2 - 1 / 2) * p2 690 ≤ 1 := by
  obtain ⟨E, hE⟩ : ∃ E : Nat, E = 690 := ⟨_, rfl⟩
  obtain ⟨F, hF⟩ : ∃ F : Nat, F = 700 := ⟨_, rfl⟩
  have m := S2_mul
  rw [← hF] at m
  have h := S2_abs (P := 2 ^ F) (Q := 2 ^ E) (Nat.pow_pos (by omega)) m (by rw [hF]; decide +kernel) (by rw [hE, hF]; decide +kernel)
  rw [← hE]
  exact h
theorem half_pt {p1 q1 : Rat} (h0 : 0 ≤ p1) (h1 : p1 ≤ q1) (h2 : p1 * p1 ≤ 1 / 2) (h3 : 1 / 2 ≤ q1 * q1) : ∃ s, p1 ≤ s ∧ s ≤ q1 ∧ s ≤ S2 ∧ (S2 - s) * p2 690 ≤ 1 := by
  obtain ⟨a1, a2⟩ := S2_sq
  have s0 := S2_nn
  have P := p2_pos 690
  have q0 : 0 ≤ q1 := Rat.le_trans h0 h1
  have hq : (1 / 2 : Rat) ≤ q1 := sq_mon (by decide +kernel) q0 (Rat.le_trans (by decide +kernel) h3)
  have hs : (1 / 2 : Rat) ≤ S2 := sq_mon (by decide +kernel) s0 (Rat.le_trans (by decide +kernel) a1)
  rcases Rat.le_total (a := S2) (b := q1) with g | g
  · exact ⟨S2, sq_mon h0 s0 (Rat.le_trans h2 a1), g, Rat.le_refl, by rw [Rat.sub_self, Rat.zero_mul]; decide⟩
  · refine ⟨q1, h1, Rat.le_refl, g, ?_⟩
    have hh : (1 / 2 : Rat) * 2 = 1 := by decide +kernel
    generalize (1 / 2 : Rat) = hf at *
    have k1 : (S2 - q1) * 1 ≤ (S2 - q1) * (S2 + q1) := Rat.mul_le_mul_of_nonneg_left (by grind) (by grind)
    have k2 : (S2 - q1) * (S2 + q1) = S2 * S2 - q1 * q1 := by grind
    have k3 : S2 - q1 ≤ S2 * S2 - hf := by grind
    have k4 := Rat.mul_le_mul_of_nonneg_right k3 (show 0 ≤ p2 690 by grind)
    exact Rat.le_trans k4 a2
end Go.Proofs.YtigiblhmhmgagaaGreat

/- incb.I of whole numbers; vernierlaw12.known, in the evaluator. -/
namespace Go.Proofs.YtigiblhmhmgagaaGreat
set_option linter.unusedSimpArgs false
set_option linter.unusedVariables false
set_option maxRecDepth 8000
open Go.Ev
section
variable {v : SV} {x : Rat} {A B p : Nat}
/-- Of whole numbers the share is told: it lies in the ball, which is as narrow as asked. -/
theorem incb_I (hv : RatA v x 1) (hA : 1 ≤ A) (hB : 1 ≤ B) (hAB : A + B ≤ 10) (hp : p ≤ 60) (h0 : 0 ≤ x) (h1 : x ≤ 1) : ∃ lo hi : Rat, Go.Ev.Fn CX 8 [.int .i64 (2 * (A : Int)), .int .i64 (2 * (B : Int)), v, .int .i64 (p : Int)] (.tup [ballR lo hi, .bool true]) ∧
    lo ≤ sS x (1 - x) (A + B - 1) B ∧ sS x (1 - x) (A + B - 1) B ≤ hi ∧ (hi - lo) * p2 p ≤ 1 ∧ szR lo 110 ∧ szR hi 110 := by
  have zx := szR_of hv (by omega)
  have hP := p2_pos p
  have one1 : szR 1 1 := ⟨lim_len_lt (by decide +kernel), lim_len_lt (by decide +kernel)⟩
  have fin : ∀ {A' B' : Nat}, (lim A').length ≤ 100 → (lim B').length ≤ 100 → szR (mkRat ((A' / 2 ^ (p + 300 - (p + 2)) : Nat) : Int) (2 ^ (p + 2))) 101 ∧ szR (mkRat ((B' / 2 ^ (p + 300 - (p + 2)) + 1 : Nat) : Int) (2 ^ (p + 2))) 101 := by
    intro A' B' hA' hB'
    have l3 := lim_len_mono (Nat.div_le_self A' (2 ^ (p + 300 - (p + 2))))
    have l4 := lim_len_mono (Nat.div_le_self B' (2 ^ (p + 300 - (p + 2))))
    have l1 := lim_len1
    have l5 := lim_len_add (a := B' / 2 ^ (p + 300 - (p + 2))) (b := 1) (L := 100) (by omega) (by omega)
    have lp := lim_len_shl (a := 1) (n := p + 2)
    rw [Nat.one_mul] at lp
    exact ⟨szR_mk (s := false) (n := A' / 2 ^ (p + 300 - (p + 2))) (d := 2 ^ (p + 2)) (L := 101) (by omega) (by omega) (by omega), szR_mk (s := false) (n := B' / 2 ^ (p + 300 - (p + 2)) + 1) (d := 2 ^ (p + 2)) (L := 101) (by omega) (by omega) (by omega)⟩
  by_cases hx0 : x = 0
  · have f := incb_I_ends (a := 2 * (A : Int)) (b := 2 * (B : Int)) (pI := (p : Int)) hv (by omega) (by omega) (by omega) (by omega) (.inl hx0)
    subst hx0
    have hz : ∀ j, j ≤ B → sS 0 (1 - 0) (A + B - 1) j = 0 := by
      intro j
      induction j with
      | zero => intro _; rfl
      | succ j ih =>
        intro hj
        show sS 0 (1 - 0) (A + B - 1) j + trm 0 (1 - 0) (A + B - 1) j = 0
        rw [ih (by omega)]
        unfold trm
        rw [show A + B - 1 - j = (A + B - 2 - j) + 1 by omega, pwR_succ]
        grind
    rw [hz B (Nat.le_refl _)]
    exact ⟨0, 0, f, Rat.le_refl, Rat.le_refl, by rw [Rat.sub_self, Rat.zero_mul]; decide, szR_mono zx (by omega), szR_mono zx (by omega)⟩
  by_cases hx1 : x = 1
  · have f := incb_I_ends (a := 2 * (A : Int)) (b := 2 * (B : Int)) (pI := (p : Int)) hv (by omega) (by omega) (by omega) (by omega) (.inr hx1)
    subst hx1
    have hz : ∀ j, j < B → sS 1 (1 - 1) (A + B - 1) (j + 1) = 1 := by
      intro j
      induction j with
      | zero =>
        intro _
        show 0 + trm 1 (1 - 1) (A + B - 1) 0 = 1
        unfold trm
        have e : ∀ n, pwR 1 n = 1 := by
          intro n
          induction n with
          | zero => rfl
          | succ n ih => rw [pwR_succ, ih, Rat.mul_one]
        rw [cc_zero, e]
        show (0 : Rat) + ((1 : Nat) : Rat) * 1 * 1 = 1
        decide +kernel
      | succ j ih =>
        intro hj
        show sS 1 (1 - 1) (A + B - 1) (j + 1) + trm 1 (1 - 1) (A + B - 1) (j + 1) = 1
        rw [ih (by omega)]
        unfold trm
        rw [pwR_succ]
        grind
    have hB2 := hz (B - 1) (by omega)
    rw [show B - 1 + 1 = B by omega] at hB2
    rw [hB2]
    exact ⟨1, 1, f, Rat.le_refl, Rat.le_refl, by rw [Rat.sub_self, Rat.zero_mul]; decide, szR_mono zx (by omega), szR_mono zx (by omega)⟩
  have hpos : 0 < x := by clear fin; grind
  have hlt : x < 1 := by clear fin; grind
  by_cases hh : x + x ≤ 1
  · obtain ⟨-, -, A', B', K, hg⟩ := row_ends (w := p + 300) hA hB hAB h0 hh (by omega) (by omega)
    obtain ⟨g1, g2, g3, g4⟩ := row_has hA hB hAB h0 hh (by omega) (by omega) hg
    have lB := lim_len_p2 g4 (by omega)
    have lA : (lim A').length ≤ 100 := by
      have : A' ≤ B' := by
        have h := Rat.le_trans g1 g2
        exact_mod_cast h
      exact Nat.le_trans (lim_len_mono this) (by omega)
    have f := incb_I_low hv (by omega) (by omega) hA hB hAB hp hpos hh hg ⟨lA, by omega⟩
    obtain ⟨t1, t2, t3⟩ := told_has g1 g2 g3
    obtain ⟨z1, z2⟩ := fin lA (show (lim B').length ≤ 100 by omega)
    exact ⟨_, _, f, t1, t2, t3, szR_mono z1 (by omega), szR_mono z2 (by omega)⟩
  · have hh' : 1 < x + x := by clear fin; grind
    have hy : (1 - x) + (1 - x) ≤ 1 := by clear fin; grind
    have hy0 : 0 ≤ 1 - x := by clear fin; grind
    obtain ⟨-, -, A', B', K, hg⟩ := row_ends (x := 1 - x) (w := p + 300) hB hA (by omega) hy0 hy (by omega) (by omega)
    obtain ⟨g1, g2, g3, g4⟩ := row_has hB hA (by omega) hy0 hy (by omega) (by omega) hg
    have lB := lim_len_p2 g4 (by omega)
    have lA : (lim A').length ≤ 100 := by
      have : A' ≤ B' := by
        have h := Rat.le_trans g1 g2
        exact_mod_cast h
      exact Nat.le_trans (lim_len_mono this) (by omega)
    have f := incb_I_high hv (by omega) (by omega) hA hB hAB hp hh' hlt hg ⟨lA, by omega⟩
    obtain ⟨t1, t2, t3⟩ := told_has g1 g2 g3
    obtain ⟨z1, z2⟩ := fin lA (show (lim B').length ≤ 100 by omega)
    have tn := sS_turn (x := x) (y := 1 - x) (by clear fin hg f t1 t2 t3 g1 g2 g3 g4; grind) (n := A + B - 1) B (by omega)
    rw [show A + B - 1 + 1 - B = A by omega] at tn
    rw [show 1 - (1 - x) = x by clear fin hg f t1 t2 t3 g1 g2 g3 g4; grind, show B + A - 1 = A + B - 1 by omega] at t1 t2
    refine ⟨_, _, f, ?_, ?_, ?_, szR_mono (szR_sub one1 z2 (by omega)) (by omega), szR_mono (szR_sub one1 z1 (by omega)) (by omega)⟩
    all_goals clear hg f fin g1 g2 g3 g4 lA lB z1 z2
    all_goals
      generalize mkRat ((B' / 2 ^ (p + 300 - (p + 2)) + 1 : Nat) : Int) (2 ^ (p + 2)) = q2 at *
      generalize mkRat ((A' / 2 ^ (p + 300 - (p + 2)) : Nat) : Int) (2 ^ (p + 2)) = q1 at *
    · grind
    · grind
    · have e : 1 - q1 - (1 - q2) = q2 - q1 := by grind
      rw [e]; exact t3
end
theorem third_len : szR (mkRat 1 3) 1 := ⟨lim_len_lt (by decide +kernel), lim_len_lt (by decide +kernel)⟩
theorem known12 : Go.Ev.Fn CX 7 [] (.bool true) := by
  have o := ref2_Of false [1] [3] (by simp [okL]) (by simp [okL]) (by simp) (by simp)
  rw [show wth [1] = 1 from rfl, show wth [3] = 3 from rfl] at o
  have o' : Go.Ev.Fn CX 19 [.bool false, .sl 1 [.int .u32 1], .sl 1 [.int .u32 3]] (rv (mkRat 1 3)) := o
  obtain ⟨lo, hi, f, g1, g2, g3, z1, z2⟩ := incb_I (A := 1) (B := 1) (p := 20) (RatA_rv third_len) (by omega) (by omega) (by omega) (by omega) (by decide +kernel) (by decide +kernel)
  have hV : sS (mkRat 1 3) (1 - mkRat 1 3) (1 + 1 - 1) 1 = mkRat 1 3 := by
    show 0 + ((cc 1 0 : Nat) : Rat) * (1 * mkRat 1 3) * 1 = _
    rw [cc_zero]
    have : ((1 : Nat) : Rat) = 1 := rfl
    rw [this]; grind
  rw [hV] at g1 g2
  have f' : Go.Ev.Fn CX 8 [.int .i64 2, .int .i64 2, rv (mkRat 1 3), .int .i64 20] (.tup [ballR lo hi, .bool true]) := f
  have of := ref4_Of (RatA_rv third_len) (by omega)
  have gd := ref4_Good (p := 20) (P := 20) (.inr rfl) (by omega) z1 z2 third_len third_len (by omega) (by omega) (by omega) (Rat.le_trans g1 g2) g2 g1 g3
  clear f o hV g1 g2 g3
  generalize mkRat 1 3 = t at *
  refine Go.Ev.Fn.intro (fn := Tryz.f7) (body := (Tryz.f7).body.get!) (by kernel_rfl) (by kernel_rfl) (by kernel_rfl) (fun _ => rfl) (Nat.le_of_ble_eq_true (by kernel_rfl)) ?_; unfold Tryz.f7; simp only [Option.get!_some]
  repeat (first | (simp only [go_sem, Nat.reduceEqDiff, Nat.reduceAdd, Nat.reduceSub, Nat.reduceMul, Nat.reduceLeDiff, Nat.reduceLT, reduceIte, reduceCtorEq, Nat.succ_ne_zero, elemsC, Int.reduceToNat, Nat.reducePow]) | (simp (disch := (first | omega | (simp only [AL, List.length_map]; omega))) only [AR, AL, ifT, ifF, take_all, List.length_cons, List.length_nil, Int.reduceToNat, Int.reducePow, Nat.reducePow]) | (refine wk_intro (by kernel_rfl) ?_) | (refine vp_draw (id := 3) (l := []) (by kernel_rfl) ?_) | (refine vf_of (by first | exact o' | exact f' | exact of | exact gd) ?_))
end Go.Proofs.YtigiblhmhmgagaaGreat

/- vernierlaw12.IncbSides at a half, and of any numbers, in the evaluator. -/
namespace Go.Proofs.YtigiblhmhmgagaaGreat
open Go.Ev
set_option linter.unusedVariables false
/-- A root, if there is one. -/
def rtF (a : Nat) (s : Rat) : Rat := if a % 2 = 1 then s else 1
theorem rtF_mon {t s S : Rat} (a : Nat) (h0 : 0 ≤ S) (h1 : s ≤ S) (h2 : t * S ≤ s) (ht : t ≤ 1) : t * rtF a S ≤ rtF a s ∧ rtF a s ≤ rtF a S ∧ 0 ≤ rtF a S := by
  unfold rtF
  split
  · exact ⟨h2, h1, h0⟩
  · exact ⟨by rw [Rat.mul_one]; exact ht, Rat.le_refl, by decide⟩
/-- The first term but for the roots. -/
def fsG (a b : Nat) : Rat := (pwR (1 / 2) (a / 2) * pwR (1 / 2) (b / 2)) * (((beta2 a b).den * 2 : Nat) : Rat) / (((beta2 a b).num.natAbs * a : Nat) : Rat) * (if a % 2 * (b % 2) = 1 then 1 / PI0 else 1)
theorem fstR_is (a b : Nat) (s s' : Rat) : fstR a b (1 / 2) s s' = fsG a b * (rtF a s * rtF b s') := by
  have e : (1 : Rat) - 1 / 2 = 1 / 2 := by decide +kernel
  unfold fstR fsG rtF
  rw [e, Rat.div_def, Rat.div_def]
  generalize (if a % 2 = 1 then s else 1) = u
  generalize (if b % 2 = 1 then s' else 1) = v
  generalize (if a % 2 * (b % 2) = 1 then 1 / PI0 else 1) = z
  generalize pwR (1 / 2) (a / 2) = f
  generalize pwR (1 / 2) (b / 2) = g
  grind
theorem inv_nn {x : Rat} (h : 0 < x) : 0 ≤ x⁻¹ := by have := Rat.inv_pos.2 h; grind
theorem PI0_pos : 0 < PI0 := by
  have P := p2_pos 700
  have h := PI0_mul
  have w : (0 : Rat) < (piW : Rat) := by exact_mod_cast (show 0 < piW by decide +kernel)
  rcases Rat.le_total (a := PI0) (b := 0) with g | g
  · have := Rat.mul_le_mul_of_nonneg_right g (show 0 ≤ p2 700 by grind)
    grind
  · by_cases h0 : PI0 = 0
    · rw [h0, Rat.zero_mul] at h; grind
    · grind
theorem fsG_nn {a b : Nat} (ha : 1 ≤ a) (hb : 1 ≤ b) (ha2 : a ≤ 20) (hb2 : b ≤ 20) : 0 ≤ fsG a b := by
  have h := (bet_ok ha hb ha2 hb2).2
  have N : (0 : Rat) < (((beta2 a b).num.natAbs * a : Nat) : Rat) := by exact_mod_cast h
  unfold fsG
  rw [Rat.div_def]
  refine Rat.mul_nonneg (Rat.mul_nonneg (Rat.mul_nonneg (Rat.mul_nonneg (pwR_nn (by decide +kernel) _) (pwR_nn (by decide +kernel) _)) (nat_nonneg _)) (inv_nn N)) ?_
  split
  · have := PI0_pos
    rw [Rat.div_def, Rat.one_mul]
    exact inv_nn this
  · decide
/-- A power of a half. -/
theorem pw_half : ∀ n, pwR (1 / 2) n * ((2 ^ n : Nat) : Rat) = 1
  | 0 => by show (1 : Rat) * ((1 : Nat) : Rat) = 1; decide +kernel
  | n + 1 => by
    have ih := pw_half n
    have c : ((2 ^ (n + 1) : Nat) : Rat) = ((2 ^ n : Nat) : Rat) * 2 := by rw [Nat.pow_succ, cmN]; rfl
    show pwR (1 / 2) n * (1 / 2) * _ = 1
    rw [c]
    have hh : (1 / 2 : Rat) * 2 = 1 := by decide +kernel
    have e : pwR (1 / 2) n * (1 / 2) * (((2 ^ n : Nat) : Rat) * 2) = pwR (1 / 2) n * ((2 ^ n : Nat) : Rat) * (1 / 2 * 2) := by
      generalize (1 / 2 : Rat) = hf
      grind
    rw [e, ih, hh]; decide +kernel
theorem rtF_S2 (a : Nat) : rtF a S2 * ((2 ^ (700 * (a % 2)) : Nat) : Rat) = ((rtH ^ (a % 2) : Nat) : Rat) := by
  obtain ⟨F, hF⟩ : ∃ F : Nat, F = 700 := ⟨_, rfl⟩
  have m := S2_mul
  rw [← hF] at m ⊢
  unfold rtF
  have h : a % 2 = 0 ∨ a % 2 = 1 := by omega
  rcases h with h | h
  · rw [h, if_neg (by omega), Nat.mul_zero, Nat.pow_zero, Nat.pow_zero]; decide +kernel
  · rw [h, if_pos rfl, Nat.mul_one, Nat.pow_one]
    exact m
/-- The share at a half: at least so, at most so. -/
theorem hf_pt {a b l h e : Nat} (ha : 1 ≤ a) (hb : 1 ≤ b) (ha2 : a ≤ 20) (hb2 : b ≤ 20) (hN : hfN a b = (l, h, e)) :
    fsG a b * (rtF a S2 * rtF b S2) * sR (1 / 2) a b 120 * (e : Rat) = (l : Rat) ∧ fsG a b * (rtF a S2 * rtF b S2) * (sR (1 / 2) a b 120 + 3 * rR (1 / 2) a b 120) * (e : Rat) = (h : Rat) ∧ (0 : Rat) < (e : Rat) := by
  have hk := (bet_ok ha hb ha2 hb2).2
  have g := hfGo_is a b 120 0 1 1 1 (by show (1 : Rat) * ((1 : Nat) : Rat) = _; decide +kernel) (by show (1 : Rat) * ((1 : Nat) : Rat) = _; decide +kernel) (by omega)
  unfold hfN at hN
  simp only [pin_eq] at hN
  rw [Nat.zero_add] at g
  generalize hfGo a b 120 0 1 1 1 = G at *
  obtain ⟨n, d, s⟩ := G
  simp only [Prod.mk.injEq] at hN
  simp only at g
  obtain ⟨g1, g2, g3⟩ := g
  obtain ⟨rfl, rfl, rfl⟩ := hN
  obtain ⟨D2, hD2⟩ : ∃ D, D = (beta2 a b).den * 2 := ⟨_, rfl⟩
  obtain ⟨N2, hN2⟩ : ∃ N, N = (beta2 a b).num.natAbs * a := ⟨_, rfl⟩
  have p1 := pw_half (a / 2)
  have p3 := pw_half (b / 2)
  have r1 := rtF_S2 a
  have r2 := rtF_S2 b
  unfold fsG
  rw [← hD2, ← hN2]
  rw [← hN2] at hk
  have N : (0 : Rat) < (N2 : Rat) := by exact_mod_cast hk
  have dv : ∀ y : Rat, y / (N2 : Rat) * (N2 : Rat) = y := fun y => Rat.div_mul_cancel (by grind)
  have pq : (if a % 2 * (b % 2) = 1 then 1 / PI0 else 1) * (((if a % 2 * (b % 2) = 1 then piW else 1 : Nat)) : Rat) = ((if a % 2 * (b % 2) = 1 then 2 ^ 700 else 1 : Nat) : Rat) := by
    split
    · have P := PI0_pos
      rw [← PI0_mul, Rat.div_def, Rat.one_mul, ← Rat.mul_assoc, Rat.inv_mul_cancel _ (by grind), Rat.one_mul]
    · decide +kernel
  have n0 : 0 < (if a % 2 * (b % 2) = 1 then piW else 1) := by split <;> decide +kernel
  have cS : ((2 ^ (700 * (a % 2 + b % 2)) : Nat) : Rat) = ((2 ^ (700 * (a % 2)) : Nat) : Rat) * ((2 ^ (700 * (b % 2)) : Nat) : Rat) := by
    rw [← cmN, ← Nat.pow_add, ← Nat.mul_add]
  have cH : ((2 ^ (a / 2 + b / 2) : Nat) : Rat) = ((2 ^ (a / 2) : Nat) : Rat) * ((2 ^ (b / 2) : Nat) : Rat) := by rw [← cmN, ← Nat.pow_add]
  have cR : ((rtH ^ (a % 2 + b % 2) : Nat) : Rat) = ((rtH ^ (a % 2) : Nat) : Rat) * ((rtH ^ (b % 2) : Nat) : Rat) := by rw [← cmN, ← Nat.pow_add]
  have c3 : ((s + 3 * n : Nat) : Rat) = (s : Rat) + 3 * (n : Rat) := by exact_mod_cast rfl
  obtain ⟨q1, hq1⟩ : ∃ z : Rat, z = (if a % 2 * (b % 2) = 1 then 1 / PI0 else 1) := ⟨_, rfl⟩
  obtain ⟨q2, hq2⟩ : ∃ z : Nat, z = (if a % 2 * (b % 2) = 1 then piW else 1) := ⟨_, rfl⟩
  obtain ⟨q3, hq3⟩ : ∃ z : Nat, z = (if a % 2 * (b % 2) = 1 then 2 ^ 700 else 1) := ⟨_, rfl⟩
  rw [← hq1, ← hq2, ← hq3] at pq
  rw [← hq2] at n0
  rw [← hq1, ← hq2, ← hq3]
  clear hq1 hq2 hq3
  obtain ⟨z1, hz1⟩ : ∃ z : Nat, z = 2 ^ (700 * (a % 2)) := ⟨_, rfl⟩
  obtain ⟨z2, hz2⟩ : ∃ z : Nat, z = 2 ^ (700 * (b % 2)) := ⟨_, rfl⟩
  obtain ⟨z5, hz5⟩ : ∃ z : Nat, z = 2 ^ (700 * (a % 2 + b % 2)) := ⟨_, rfl⟩
  have n5 : 0 < z5 := by rw [hz5]; exact Nat.pow_pos (by omega)
  have n6 : 0 < 2 ^ (a / 2 + b / 2) := Nat.pow_pos (by omega)
  rw [← hz1] at r1
  rw [← hz2] at r2
  rw [← hz1, ← hz2, ← hz5] at cS
  rw [← hz5]
  clear hz1 hz2 hz5
  generalize pwR (1 / 2) (a / 2) = w1 at *
  generalize pwR (1 / 2) (b / 2) = w2 at *
  generalize rtF a S2 = f1 at *
  generalize rtF b S2 = f2 at *
  generalize sR (1 / 2) a b 120 = sr at *
  generalize rR (1 / 2) a b 120 = rr at *
  generalize rtH ^ (a % 2 + b % 2) = h5 at *
  generalize rtH ^ (a % 2) = h3 at *
  generalize rtH ^ (b % 2) = h4 at *
  generalize 2 ^ (a / 2 + b / 2) = z6 at *
  generalize 2 ^ (a / 2) = z3 at *
  generalize 2 ^ (b / 2) = z4 at *
  have d2 := dv (w1 * w2 * (D2 : Rat))
  generalize w1 * w2 * (D2 : Rat) / (N2 : Rat) = y at *
  have key : y * q1 * (f1 * f2) * ((z6 * z5 * N2 * q2 : Nat) : Rat) = ((h5 * D2 * q3 : Nat) : Rat) := by
    rw [cmN, cmN, cmN z6, cS, cH, cmN, cmN h5, cR, ← pq, ← r1, ← r2]
    have e1 : y * q1 * (f1 * f2) * ((z3 : Rat) * (z4 : Rat) * ((z1 : Rat) * (z2 : Rat)) * (N2 : Rat) * (q2 : Rat)) = (y * (N2 : Rat)) * ((z3 : Rat) * (z4 : Rat)) * (q1 * (q2 : Rat)) * (f1 * (z1 : Rat) * (f2 * (z2 : Rat))) := by grind
    have e2 : (w1 * w2 * (D2 : Rat)) * ((z3 : Rat) * (z4 : Rat)) * (q1 * (q2 : Rat)) * (f1 * (z1 : Rat) * (f2 * (z2 : Rat))) = (w1 * (z3 : Rat)) * (w2 * (z4 : Rat)) * (f1 * (z1 : Rat) * (f2 * (z2 : Rat)) * (D2 : Rat) * (q1 * (q2 : Rat))) := by grind
    rw [e1, d2, e2, p1, p3, Rat.one_mul, Rat.one_mul]
  have vp : 0 < z6 * z5 * N2 * q2 := Nat.mul_pos (Nat.mul_pos (Nat.mul_pos n6 n5) hk) n0
  generalize z6 * z5 * N2 * q2 = v at *
  generalize h5 * D2 * q3 = u at *
  clear d2 dv cS cH cR pq r1 r2 p1 p3 N n0 n5 n6 hk hN2 hD2
  generalize y * q1 * (f1 * f2) = C at *
  refine ⟨?_, ?_, ?_⟩
  · rw [cmN, cmN, ← key, ← g2]
    grind
  · rw [cmN, cmN, c3, ← key, ← g2, ← g1]
    grind
  · exact_mod_cast Nat.mul_pos vp g3
/-- Both shares at a half, at least and at most. -/
def hfLo (a b : Nat) : Rat := fsG a b * (rtF a S2 * rtF b S2) * sR (1 / 2) a b 120
def hfHi (a b : Nat) : Rat := fsG a b * (rtF a S2 * rtF b S2) * (sR (1 / 2) a b 120 + 3 * rR (1 / 2) a b 120)
theorem hf_sum1 {a b : Nat} (ha : 1 ≤ a) (hb : 1 ≤ b) (ha2 : a ≤ 20) (hb2 : b ≤ 20) (h : hfOk a b = true) :
    73786976294838206463 ≤ 73786976294838206464 * (hfLo a b + hfLo b a) ∧ 73786976294838206464 * (hfHi a b + hfHi b a) ≤ 73786976294838206465 := by
  unfold hfLo hfHi
  have p1 := hf_pt (l := (hfN a b).1) (h := (hfN a b).2.1) (e := (hfN a b).2.2) ha hb ha2 hb2 rfl
  have p2 := hf_pt (l := (hfN b a).1) (h := (hfN b a).2.1) (e := (hfN b a).2.2) hb ha hb2 ha2 rfl
  unfold hfOk at h
  generalize hfN a b = X1 at *
  generalize hfN b a = X2 at *
  obtain ⟨l1, h1, e1⟩ := X1
  obtain ⟨l2, h2, e2⟩ := X2
  simp only [pin_eq, Bool.and_eq_true] at h
  obtain ⟨k1, k2⟩ := h
  have m1 := nat_le_rat (Nat.le_of_ble_eq_true k1)
  have m2 := nat_le_rat (Nat.le_of_ble_eq_true k2)
  obtain ⟨a1, a2, a3⟩ := p1
  obtain ⟨b1, b2, b3⟩ := p2
  simp only at a1 a2 a3 b1 b2 b3
  have E := Rat.mul_pos a3 b3
  rw [cmN, cmN, cmN, cnN, cmN l1, cmN l2, ← a1, ← b1] at m1
  rw [cmN, cmN, cmN, cnN, cmN h1, cmN h2, ← a2, ← b2] at m2
  rw [show ((2 ^ 66 - 1 : Nat) : Rat) = 73786976294838206463 from rfl, show ((2 ^ 66 : Nat) : Rat) = 73786976294838206464 from rfl] at m1
  rw [show ((2 ^ 66 + 1 : Nat) : Rat) = 73786976294838206465 from rfl, show ((2 ^ 66 : Nat) : Rat) = 73786976294838206464 from rfl] at m2
  clear a1 a2 b1 b2 k1 k2
  generalize fsG a b * (rtF a S2 * rtF b S2) * sR (1 / 2) a b 120 = u1 at *
  generalize fsG b a * (rtF b S2 * rtF a S2) * sR (1 / 2) b a 120 = u2 at *
  generalize fsG a b * (rtF a S2 * rtF b S2) * (sR (1 / 2) a b 120 + 3 * rR (1 / 2) a b 120) = u3 at *
  generalize fsG b a * (rtF b S2 * rtF a S2) * (sR (1 / 2) b a 120 + 3 * rR (1 / 2) b a 120) = u4 at *
  generalize (e1 : Rat) = x1 at *
  generalize (e2 : Rat) = x2 at *
  refine ⟨le_by E ?_, le_by E ?_⟩
  · have : 73786976294838206464 * (u1 + u2) * (x1 * x2) = 73786976294838206464 * (u1 * x1 * x2 + u2 * x2 * x1) := by grind
    rw [this]; exact m1
  · have : 73786976294838206464 * (u3 + u4) * (x1 * x2) = 73786976294838206464 * (u3 * x1 * x2 + u4 * x2 * x1) := by grind
    rw [this]; exact m2
theorem hf_sum {a b : Nat} (ha : 1 ≤ a) (hb : 1 ≤ b) (ha2 : a ≤ 20) (hb2 : b ≤ 20) :
    73786976294838206463 ≤ 73786976294838206464 * (hfLo a b + hfLo b a) ∧ 73786976294838206464 * (hfHi a b + hfHi b a) ≤ 73786976294838206465 := by
  rcases Nat.le_total a b with h | h
  · exact hf_sum1 ha hb ha2 hb2 (hf_all ha h hb2)
  · have := hf_sum1 hb ha hb2 ha2 (hf_all hb h ha2)
    rw [Rat.add_comm (hfLo a b), Rat.add_comm (hfHi a b)]
    exact this
/-- 1 but for a little. -/
def tau : Rat := 1 - 1 / 1267650600228229401496703205376
theorem tau_abs {s S u d D hf : Rat} (h1 : s ≤ S) (h2 : (S - s) * u ≤ 1) (hs : hf ≤ S) (hh : hf * 2 = 1) (hD : 0 < D) (e : d * D = 1) (hp : 2 * D ≤ u) : (1 - d) * S ≤ s := by
  have h3 := Rat.mul_le_mul_of_nonneg_left hp (show 0 ≤ S - s by grind)
  refine le_by hD ?_
  have : (1 - d) * S * D = D * S - S * (d * D) := by grind
  rw [this, e]
  have e2 : (S - s) * (2 * D) = 2 * (D * S) - 2 * (s * D) := by grind
  rw [e2] at h3
  grind
theorem tau_pt {s : Rat} (h1 : s ≤ S2) (h2 : (S2 - s) * p2 690 ≤ 1) : tau * S2 ≤ s := by
  have hs : (1 / 2 : Rat) ≤ S2 := sq_mon (by decide +kernel) S2_nn (Rat.le_trans (by decide +kernel) S2_sq.1)
  have hp : (2 * 1267650600228229401496703205376 : Rat) ≤ p2 690 := by
    obtain ⟨E, hE⟩ : ∃ E : Nat, E = 690 := ⟨_, rfl⟩
    rw [← hE]
    have : 2 ^ 101 ≤ 2 ^ E := Nat.pow_le_pow_right (by omega) (by omega)
    exact Rat.le_trans (show _ ≤ ((2 ^ 101 : Nat) : Rat) by decide +kernel) (nat_le_rat this)
  exact tau_abs h1 h2 hs (by decide +kernel) (by decide +kernel) (by decide +kernel) hp
theorem tau_ok : 0 ≤ tau ∧ tau ≤ 1 ∧ 73786976294838206462 ≤ tau * tau * 73786976294838206463 := by decide +kernel
theorem sR_nnH {x : Rat} {a b : Nat} (h : 0 ≤ x) (k : Nat) : 0 ≤ sR x a b k := Rat.le_trans (show (0 : Rat) ≤ 1 by decide) (sR_up (a := a) (b := b) h (Nat.zero_le k))
theorem half_row {a b p : Nat} (ha : 1 ≤ a) (ha2 : a ≤ 20) (hb : 1 ≤ b) (hb2 : b ≤ 20) (hp : p ≤ 60) :
    ∃ A B : Nat, Go.Ev.Fn CX 28 [.int .i64 (a : Int), .int .i64 (b : Int), rv (1 / 2), .int .i64 ((p + 300 : Nat) : Int)] (spanV A B) ∧ A ≤ B ∧ (lim A).length ≤ 100 ∧ (lim B).length ≤ 100 ∧
      (A : Rat) ≤ hfHi a b * p2 (p + 300) ∧ tau * tau * hfLo a b * p2 (p + 300) ≤ (B : Rat) := by
  have hz : szR (1 / 2) 1 := ⟨lim_len_lt (by decide +kernel), lim_len_lt (by decide +kernel)⟩
  have h0 : (0 : Rat) ≤ 1 / 2 := by decide +kernel
  have h1 : (1 / 2 : Rat) + 1 / 2 ≤ 1 := by decide +kernel
  obtain ⟨F1, F2, p1, p2', q1, q2, fi, g1, g2, g3, r1, r2, r3, r4, r5, r6, r7, r8, hF⟩ := incb_fst (w := p + 300) ha ha2 hb hb2 hz (by omega) (by omega) h0 (by decide +kernel) (by omega) (by omega)
  obtain ⟨A, B, K, hg⟩ := rowh_ends ha hb2 h0 h1 (by omega) (by omega) g1 g2 g3
  obtain ⟨k1, k2, k3⟩ := rowh_bd ha hb2 h0 h1 (by omega) g1 g2 g3 hg
  have f := incb_rowh ha ha2 hb hb2 hz (by omega) h0 h1 (by omega) (by omega) fi g1 g2 g3 hg
  have lB := lim_len_p2 k3 (by omega)
  have e2 : (1 : Rat) - 1 / 2 = 1 / 2 := by decide +kernel
  rw [e2] at r7 r8
  obtain ⟨s, s1, s2, s3, s4⟩ := half_pt r2 r1 r3 r4
  obtain ⟨s', s1', s2', s3', s4'⟩ := half_pt r6 r5 r7 r8
  have en := hF s s' s1 s2 s1' s2'
  have en1 : Enc (p + 300) F1 F2 (fstR a b (1 / 2) s s' * rR (1 / 2) a b 0) := by
    show Enc _ _ _ (_ * 1)
    rw [Rat.mul_one]; exact en
  have en2 : Enc (p + 300) F1 F2 (fstR a b (1 / 2) s s' * sR (1 / 2) a b 0) := en1
  obtain ⟨hbK, e3, e4, e5⟩ := row_enc (un_enc h0 (p + 300)) 2201 0 _ _ _ _ hg en1 en2
  have t1 := sR_top (a := a) (b := b) h0 h1 (k := 120) (m := K) (by omega)
  have t2 := sR_top (a := a) (b := b) h0 h1 (k := K) (m := 120) hbK
  obtain ⟨u1, u2, u3⟩ := tau_ok
  obtain ⟨a1, a2, a3⟩ := rtF_mon (t := tau) a S2_nn s3 (tau_pt s3 s4) u2
  obtain ⟨b1, b2, b3⟩ := rtF_mon (t := tau) b S2_nn s3' (tau_pt s3' s4') u2
  have G := fsG_nn ha hb ha2 hb2
  refine ⟨A, B, f, k1, Nat.le_trans (lim_len_mono k1) (by omega), by omega, ?_, ?_⟩
  all_goals
    (try unfold hfHi)
    (try unfold hfLo)
    rw [fstR_is] at e3 e4 e5
    have P := p2_pos (p + 300)
    have c0 : 0 ≤ rtF a s := Rat.le_trans (Rat.mul_nonneg u1 a3) a1
    have c1 : 0 ≤ rtF b s' := Rat.le_trans (Rat.mul_nonneg u1 b3) b1
    have w0 := sR_nnH (a := a) (b := b) h0 K
    have w2 := rR_nn (a := a) (b := b) h0 120
    have w3 := sR_nnH (a := a) (b := b) h0 120
    have w4 := rR_nn (a := a) (b := b) h0 K
    generalize (1 / 2 : Rat) = hf at *
    generalize sR hf a b 120 = v1 at *
    generalize rR hf a b 120 = v2 at *
    generalize sR hf a b K = v3 at *
    generalize rR hf a b K = v4 at *
    generalize rtF a s = x1 at *
    generalize rtF b s' = x2 at *
    generalize rtF a S2 = y1 at *
    generalize rtF b S2 = y2 at *
    generalize fsG a b = c at *
    generalize p2 (p + 300) = W at *
    clear fi g1 g2 g3 hF hg f en en1 en2 k3 lB
  · have m1 : x1 * x2 ≤ y1 * y2 := Rat.le_trans (Rat.mul_le_mul_of_nonneg_right a2 c1) (Rat.mul_le_mul_of_nonneg_left b2 a3)
    have m2 := Rat.mul_le_mul_of_nonneg_left m1 G
    have m3 : c * (x1 * x2) * v3 ≤ c * (y1 * y2) * (v1 + 3 * v2) := Rat.le_trans (Rat.mul_le_mul_of_nonneg_right m2 w0) (Rat.mul_le_mul_of_nonneg_left t1 (Rat.mul_nonneg G (Rat.mul_nonneg a3 b3)))
    exact Rat.le_trans e3 (Rat.mul_le_mul_of_nonneg_right m3 (Rat.le_of_lt P))
  · have m1 : tau * y1 * (tau * y2) ≤ x1 * x2 := Rat.le_trans (Rat.mul_le_mul_of_nonneg_right a1 (Rat.mul_nonneg u1 b3)) (Rat.mul_le_mul_of_nonneg_left b1 c0)
    have m2 := Rat.mul_le_mul_of_nonneg_left m1 G
    have m3 : c * (tau * y1 * (tau * y2)) * v1 ≤ c * (x1 * x2) * (v3 + 3 * v4) := Rat.le_trans (Rat.mul_le_mul_of_nonneg_right m2 w3) (Rat.mul_le_mul_of_nonneg_left t2 (Rat.mul_nonneg G (Rat.mul_nonneg c0 c1)))
    have m4 := Rat.mul_le_mul_of_nonneg_right m3 (Rat.le_of_lt P)
    have e6 : tau * tau * (c * (y1 * y2) * v1) * W = c * (tau * y1 * (tau * y2)) * v1 * W := by grind
    rw [e6]
    refine Rat.le_trans m4 ?_
    have e7 : c * (x1 * x2) * (v3 + 3 * v4) * W = c * (x1 * x2) * v3 * W + 3 * (c * (x1 * x2) * v4 * W) := by grind
    rw [e7]
    grind
theorem told_abs {A1 A2 B1 B2 M E : Nat} (hE : 0 < E) (hM : M ≤ 2 ^ 62) (h1 : (A1 + A2) * 73786976294838206464 ≤ 73786976294838206465 * (M * E)) (h2 : 73786976294838206462 * (M * E) ≤ (B1 + B2) * 73786976294838206464) :
    A1 / E + A2 / E ≤ M ∧ M ≤ B1 / E + 1 + (B2 / E + 1) := by
  have d1 := Nat.div_mul_le_self A1 E
  have d2 := Nat.div_mul_le_self A2 E
  have d3 := Nat.lt_mul_div_succ B1 hE
  have d4 := Nat.lt_mul_div_succ B2 hE
  generalize A1 / E = x1 at *
  generalize A2 / E = x2 at *
  generalize B1 / E = y1 at *
  generalize B2 / E = y2 at *
  constructor
  · have k : (x1 + x2) * 73786976294838206464 * E ≤ 73786976294838206465 * M * E := by
      rw [Nat.mul_assoc 73786976294838206465]
      refine Nat.le_trans ?_ h1
      have : (x1 + x2) * 73786976294838206464 * E = (x1 * E + x2 * E) * 73786976294838206464 := by rw [← Nat.add_mul, Nat.mul_assoc, Nat.mul_comm _ E, ← Nat.mul_assoc]
      rw [this]
      exact Nat.mul_le_mul_right _ (Nat.add_le_add d1 d2)
    have := Nat.le_of_mul_le_mul_right k hE
    omega
  · have k : 73786976294838206462 * M * E ≤ (y1 + 1 + (y2 + 1)) * 73786976294838206464 * E := by
      rw [Nat.mul_assoc 73786976294838206462]
      refine Nat.le_trans h2 ?_
      have : (y1 + 1 + (y2 + 1)) * 73786976294838206464 * E = (E * (y1 + 1) + E * (y2 + 1)) * 73786976294838206464 := by rw [← Nat.mul_add, Nat.mul_assoc, Nat.mul_comm _ E, Nat.mul_comm E, ← Nat.mul_assoc, Nat.mul_comm E, Nat.mul_assoc, Nat.mul_assoc]; congr 1; rw [Nat.mul_comm]
      rw [this]
      exact Nat.mul_le_mul_right _ (Nat.add_le_add (Nat.le_of_lt d3) (Nat.le_of_lt d4))
    have := Nat.le_of_mul_le_mul_right k hE
    omega
/-- Balls that are told as sums within a little of 1 hold 1 together. -/
theorem told_sum {A1 A2 B1 B2 p : Nat} (hp : p ≤ 60) (h1 : (A1 + A2) * 73786976294838206464 ≤ 73786976294838206465 * 2 ^ (p + 300)) (h2 : 73786976294838206462 * 2 ^ (p + 300) ≤ (B1 + B2) * 73786976294838206464) :
    toldLo A1 p + toldLo A2 p ≤ 1 ∧ 1 ≤ toldHi B1 p + toldHi B2 p := by
  unfold toldLo toldHi
  have P := p2_pos (p + 2)
  obtain ⟨F, hF⟩ : ∃ F : Nat, F = p + 300 - (p + 2) := ⟨_, rfl⟩
  rw [← hF]
  have hw : 2 ^ (p + 300) = 2 ^ (p + 2) * 2 ^ F := by rw [← Nat.pow_add]; congr 1; omega
  rw [hw] at h1 h2
  obtain ⟨k1, k2⟩ := told_abs (Nat.pow_pos (by omega)) (Nat.pow_le_pow_right (by omega) (by omega)) h1 h2
  have m1 := mk_p2n (A1 / 2 ^ F) (p + 2)
  have m2 := mk_p2n (A2 / 2 ^ F) (p + 2)
  have m3 := mk_p2n (B1 / 2 ^ F + 1) (p + 2)
  have m4 := mk_p2n (B2 / 2 ^ F + 1) (p + 2)
  have n1 := nat_le_rat k1
  have n2 := nat_le_rat k2
  rw [cnN, ← m1, ← m2] at n1
  rw [cnN (B1 / 2 ^ F + 1), ← m3, ← m4] at n2
  change _ ≤ p2 (p + 2) at n1
  change p2 (p + 2) ≤ _ at n2
  refine ⟨le_by P ?_, le_by P ?_⟩
  · rw [Rat.one_mul, Rat.add_mul]; exact n1
  · rw [Rat.one_mul, Rat.add_mul]; exact n2
section
variable {x : Rat} {a b p : Nat} {s : Bool} {n d : List Nat}
/-- At a half both balls, of a and b and of b and a, hold 1 together. -/
theorem half_pair (ha : 1 ≤ a) (ha2 : a ≤ 20) (hb : 1 ≤ b) (hb2 : b ≤ 20) (hp : p ≤ 60) :
    ∃ A1 B1 A2 B2 : Nat, Go.Ev.Fn CX 28 [.int .i64 (a : Int), .int .i64 (b : Int), rv (1 / 2), .int .i64 ((p + 300 : Nat) : Int)] (spanV A1 B1) ∧ Go.Ev.Fn CX 28 [.int .i64 (b : Int), .int .i64 (a : Int), rv (1 / 2), .int .i64 ((p + 300 : Nat) : Int)] (spanV A2 B2) ∧
      A1 ≤ B1 ∧ (lim A1).length ≤ 100 ∧ (lim B1).length ≤ 100 ∧ (lim A2).length ≤ 100 ∧ (lim B2).length ≤ 100 ∧ toldLo A1 p + toldLo A2 p ≤ 1 ∧ 1 ≤ toldHi B1 p + toldHi B2 p := by
  obtain ⟨A1, B1, f1, l0, l1, l2, a1, b1⟩ := half_row (p := p) ha ha2 hb hb2 hp
  obtain ⟨A2, B2, f2, -, l3, l4, a2, b2⟩ := half_row (p := p) hb hb2 ha ha2 hp
  obtain ⟨s1, s2⟩ := hf_sum ha hb ha2 hb2
  obtain ⟨u1, u2, u3⟩ := tau_ok
  have W := p2_pos (p + 300)
  have t := told_sum (A1 := A1) (A2 := A2) (B1 := B1) (B2 := B2) hp (by
    have k : (((A1 + A2) * 73786976294838206464 : Nat) : Rat) ≤ ((73786976294838206465 * 2 ^ (p + 300) : Nat) : Rat) := by
      rw [cmN, cmN, cnN]
      show ((A1 : Rat) + (A2 : Rat)) * 73786976294838206464 ≤ 73786976294838206465 * p2 (p + 300)
      have m := Rat.mul_le_mul_of_nonneg_right s2 (show 0 ≤ p2 (p + 300) by grind)
      clear f1 f2
      generalize p2 (p + 300) = w at *
      generalize hfHi a b = q1 at *
      generalize hfHi b a = q2 at *
      grind
    exact_mod_cast k) (by
    have k : ((73786976294838206462 * 2 ^ (p + 300) : Nat) : Rat) ≤ (((B1 + B2) * 73786976294838206464 : Nat) : Rat) := by
      rw [cmN, cmN, cnN]
      show 73786976294838206462 * p2 (p + 300) ≤ ((B1 : Rat) + (B2 : Rat)) * 73786976294838206464
      have m1 := Rat.mul_le_mul_of_nonneg_left s1 (Rat.mul_nonneg u1 u1)
      have m2 := Rat.mul_le_mul_of_nonneg_right (Rat.le_trans u3 m1) (show 0 ≤ p2 (p + 300) by grind)
      clear f1 f2
      generalize p2 (p + 300) = w at *
      generalize hfLo a b = q1 at *
      generalize hfLo b a = q2 at *
      generalize tau = t at *
      have e3 : t * t * (73786976294838206464 * (q1 + q2)) * w = (t * t * q1 * w + t * t * q2 * w) * 73786976294838206464 := by grind
      rw [e3] at m2
      grind
    exact_mod_cast k)
  exact ⟨A1, B1, A2, B2, f1, f2, l0, l1, l2, l3, l4, t.1, t.2⟩
theorem hfq_len : szR (1 / 2) 1 := ⟨lim_len_lt (by decide +kernel), lim_len_lt (by decide +kernel)⟩
theorem sides_half (hv : RatA (ratV s n d) x 3) (hn : n.length ≤ 3) (hd : d.length ≤ 3) (ha : 1 ≤ a) (ha2 : a ≤ 20) (hb : 1 ≤ b) (hb2 : b ≤ 20) (hp : p ≤ 60) (h : x = 1 / 2) :
    Go.Ev.Fn CX 4 [.int .i64 (a : Int), .int .i64 (b : Int), ratV s n d, .int .i64 (p : Int)] (.bool true) := by
  subst h
  have e : (1 : Rat) - 1 / 2 = 1 / 2 := by decide +kernel
  obtain ⟨A1, B1, A2, B2, f1, f2, -, l1, l2, l3, l4, t1, t2⟩ := half_pair (p := p) ha ha2 hb hb2 hp
  have i1 := incb_I_lo hv (by omega) (by omega) ha ha2 hb hb2 (by omega) (by decide +kernel) (by decide +kernel) f1 ⟨l1, l2⟩
  have i2 := incb_I_lo (v := rv (1 / 2)) (RatA_rv hfq_len) (by omega) (by omega) hb hb2 ha ha2 (by omega) (by decide +kernel) (by decide +kernel) f2 ⟨l3, l4⟩
  obtain ⟨z1, z2⟩ := told_sz (p := p) (by omega) l1 l2
  obtain ⟨z3, z4⟩ := told_sz (p := p) (by omega) l3 l4
  have i2' : Go.Ev.Fn CX 8 [.int .i64 (b : Int), .int .i64 (a : Int), rv (1 - 1 / 2), .int .i64 (p : Int)] (.tup [ballR (toldLo A2 p) (toldHi B2 p), .bool true]) := by rw [e]; exact i2
  exact sides_in known12 hv hn hd (by omega) (by omega) (by omega) i1 i2' (szR_mono z1 (by omega)) (szR_mono z2 (by omega)) (szR_mono z3 (by omega)) (szR_mono z4 (by omega)) t1 t2
end
theorem wf_int64k {n : Int} (h : (Lit.int .i64 n).wf = true) : -9223372036854775808 ≤ n ∧ n < 9223372036854775808 := by
  have h' : decide (IntKind.i64.min ≤ n ∧ n ≤ IntKind.i64.max) = true := by simpa [Lit.wf] using h
  have := of_decide_eq_true h'
  simp only [show IntKind.i64.min = -9223372036854775808 from rfl, show IntKind.i64.max = 9223372036854775807 from rfl] at this
  omega
set_option maxRecDepth 100000 in
theorem sides_law (a : Int) (w0 : (Lit.int .i64 a).wf = true) (b : Int) (w1 : (Lit.int .i64 b).wf = true) (ss2 : List SV) (sh2 : ShpT Tryz.prog 6 24 ss2) (p : Int) (w3 : (Lit.int .i64 p).wf = true) :
    Go.Ev.Fn CX 4 [.int .i64 a, .int .i64 b, .agg ss2, .int .i64 p] (.bool true) := by
  obtain ⟨s, nm, dm, rfl, hn, hd, ln, ld⟩ := shp_rat (n := 3) sh2
  have r0 := wf_int64k w0
  have r1 := wf_int64k w1
  have r3 := wf_int64k w3
  have m1 := Nat.le_trans ln (show maxLen ≤ 9223372036854775807 by decide)
  have m2 := Nat.le_trans ld (show maxLen ≤ 9223372036854775807 by decide)
  by_cases c : nm.length ≤ 3 ∧ dm.length ≤ 3 ∧ 0 ≤ p ∧ p ≤ 60 ∧ a ≤ 20 ∧ b ≤ 20
  · obtain ⟨c1, c2, c3, c4, c5, c6⟩ := c
    obtain ⟨x, hx⟩ : ∃ x : Rat, RatA (ratV s nm dm) x 3 := ⟨_, s, nm, dm, rfl, hn, hd, c1, c2, rfl⟩
    by_cases bad : a < 1 ∨ b < 1 ∨ x < 0 ∨ 1 < x
    · exact sides_bad known12 hx c1 c2 (by omega) (by omega) ⟨c3, c4⟩ bad
    · have g1 : 0 ≤ x := Rat.not_lt.1 fun g => bad (.inr (.inr (.inl g)))
      have g2 : x ≤ 1 := Rat.not_lt.1 fun g => bad (.inr (.inr (.inr g)))
      obtain ⟨P, rfl⟩ : ∃ P : Nat, p = (P : Int) := ⟨p.toNat, by omega⟩
      obtain ⟨A, rfl⟩ : ∃ K : Nat, a = (K : Int) := ⟨a.toNat, by omega⟩
      obtain ⟨B, rfl⟩ : ∃ N : Nat, b = (N : Int) := ⟨b.toNat, by omega⟩
      have a1 : 1 ≤ A := by omega
      have b1 : 1 ≤ B := by omega
      by_cases e0 : x = 0 ∨ x = 1
      · exact sides_ends known12 hx c1 c2 a1 (by omega) b1 (by omega) (by omega) e0
      · have n0 : 0 < x := by clear bad; grind
        have n1 : x < 1 := by clear bad; grind
        rcases Rat.le_total (a := x + x) (b := 1) with g | g
        · by_cases e : x + x = 1
          · have hh : (1 / 2 : Rat) * 2 = 1 := by decide +kernel
            exact sides_half hx c1 c2 a1 (by omega) b1 (by omega) (by omega) (by clear bad; generalize (1 / 2 : Rat) = hf at *; grind)
          · exact sides_low known12 hx c1 c2 a1 (by omega) b1 (by omega) (by omega) n0 (by clear bad; grind)
        · by_cases e : x + x = 1
          · have hh : (1 / 2 : Rat) * 2 = 1 := by decide +kernel
            exact sides_half hx c1 c2 a1 (by omega) b1 (by omega) (by omega) (by clear bad; generalize (1 / 2 : Rat) = hf at *; grind)
          · exact sides_high known12 hx c1 c2 a1 (by omega) b1 (by omega) (by omega) (by clear bad; grind) n1
  · exact sides_out m1 m2 r0 r1 r3 (by omega)
end Go.Proofs.YtigiblhmhmgagaaGreat

/- IncbRises, plain mathematics: a row's squares; ends of shares of lesser numbers are not above those of greater ones. -/
namespace Go.Proofs.YtigiblhmhmgagaaGreat
open Go.Ev
set_option linter.unusedVariables false
/-- A share's factor. -/
def fsC (a b : Nat) : Rat := (((beta2 a b).den * 2 : Nat) : Rat) * (((beta2 a b).num.natAbs * a : Nat) : Rat)⁻¹ * (if a % 2 * (b % 2) = 1 then 1 / PI0 else 1)
theorem pwR_add (q : Rat) (m n : Nat) : pwR q (m + n) = pwR q m * pwR q n := by
  induction n with
  | zero => show pwR q m = pwR q m * 1; rw [Rat.mul_one]
  | succ n ih => show pwR q (m + n) * q = pwR q m * (pwR q n * q); rw [ih, Rat.mul_assoc]
theorem pwR_half (q : Rat) (a : Nat) : pwR q a = pwR q (a / 2) * pwR q (a / 2) * rtF a q := by
  unfold rtF
  have h : a % 2 = 0 ∨ a % 2 = 1 := by omega
  rcases h with h | h
  · rw [if_neg (by omega), Rat.mul_one, ← pwR_add, show a / 2 + a / 2 = a by omega]
  · rw [if_pos h, ← pwR_add]
    have : a = a / 2 + a / 2 + 1 := by omega
    conv => lhs; rw [this]
    rfl
theorem rtF_sq_lo {q s : Rat} (a : Nat) (h : s * s ≤ q) : rtF a s * rtF a s ≤ rtF a q := by
  unfold rtF
  split
  · exact h
  · rw [Rat.mul_one]; exact Rat.le_refl
theorem rtF_sq_hi {q s : Rat} (a : Nat) (h : q ≤ s * s) : rtF a q ≤ rtF a s * rtF a s := by
  unfold rtF
  split
  · exact h
  · rw [Rat.mul_one]; exact Rat.le_refl
theorem rtF_nn {s : Rat} (a : Nat) (h : 0 ≤ s) : 0 ≤ rtF a s := by
  unfold rtF
  split
  · exact h
  · decide
theorem fstR_sq (a b : Nat) (x sx sy : Rat) : fstR a b x sx sy = fsC a b * (pwR x (a / 2) * rtF a sx * (pwR (1 - x) (b / 2) * rtF b sy)) := by
  unfold fstR fsC rtF
  rw [Rat.div_def]
  generalize (if a % 2 = 1 then sx else 1) = u
  generalize (if b % 2 = 1 then sy else 1) = v
  generalize (if a % 2 * (b % 2) = 1 then 1 / PI0 else 1) = z
  grind
theorem fsC_nn {a b : Nat} (ha : 1 ≤ a) (hb : 1 ≤ b) (ha2 : a ≤ 20) (hb2 : b ≤ 20) : 0 ≤ fsC a b := by
  have h := (bet_ok ha hb ha2 hb2).2
  have N : (0 : Rat) < (((beta2 a b).num.natAbs * a : Nat) : Rat) := by exact_mod_cast h
  unfold fsC
  refine Rat.mul_nonneg (Rat.mul_nonneg (nat_nonneg _) (inv_nn N)) ?_
  split
  · have := PI0_pos
    rw [Rat.div_def, Rat.one_mul]
    exact inv_nn this
  · decide
theorem mul_self_nn (x : Rat) : 0 ≤ x * x := by
  rcases Rat.le_total (a := 0) (b := x) with h | h
  · exact Rat.mul_nonneg h h
  · have := Rat.mul_nonneg (show 0 ≤ -x by grind) (show 0 ≤ -x by grind)
    grind
/-- Products of what is not below 0. -/
theorem mul_both {a b c d : Rat} (h1 : a ≤ b) (h2 : c ≤ d) (hb : 0 ≤ b) (hc : 0 ≤ c) : a * c ≤ b * d :=
  Rat.le_trans (Rat.mul_le_mul_of_nonneg_right h1 hc) (Rat.mul_le_mul_of_nonneg_left h2 hb)
section
variable {x sx sy : Rat} {a b k : Nat}
theorem sh_lo (hx : 0 ≤ x) (hx1 : x ≤ 1) (h1 : sx * sx ≤ x) (h2 : sy * sy ≤ 1 - x) : fstR a b x sx sy * sR x a b k * (fstR a b x sx sy * sR x a b k) ≤ fsC a b * fsC a b * shG a b k x := by
  have e1 := rtF_sq_lo a h1
  have e2 := rtF_sq_lo b h2
  unfold shG
  rw [fstR_sq, pwR_half x a, pwR_half (1 - x) b]
  have n1 : 0 ≤ pwR x (a / 2) * pwR x (a / 2) := Rat.mul_nonneg (pwR_nn hx _) (pwR_nn hx _)
  have n2 : 0 ≤ pwR (1 - x) (b / 2) * pwR (1 - x) (b / 2) := Rat.mul_nonneg (pwR_nn (by grind) _) (pwR_nn (by grind) _)
  have n3 : 0 ≤ rtF a x := rtF_nn a hx
  have n4 : 0 ≤ rtF b sy * rtF b sy := mul_self_nn _
  have n5 : 0 ≤ fsC a b * fsC a b := mul_self_nn _
  have n6 : 0 ≤ sR x a b k * sR x a b k := mul_self_nn _
  have m := mul_both e1 e2 n3 n4
  have m2 := Rat.mul_le_mul_of_nonneg_left m (Rat.mul_nonneg (Rat.mul_nonneg n5 n6) (Rat.mul_nonneg n1 n2))
  generalize fsC a b = c at *
  generalize sR x a b k = s at *
  generalize pwR x (a / 2) = u at *
  generalize pwR (1 - x) (b / 2) = v at *
  generalize rtF a sx = r1 at *
  generalize rtF b sy = r2 at *
  generalize rtF a x = r3 at *
  generalize rtF b (1 - x) = r4 at *
  have q1 : c * (u * r1 * (v * r2)) * s * (c * (u * r1 * (v * r2)) * s) = c * c * (s * s) * (u * u * (v * v)) * (r1 * r1 * (r2 * r2)) := by grind
  have q2 : c * c * (u * u * r3 * (v * v * r4) * (s * s)) = c * c * (s * s) * (u * u * (v * v)) * (r3 * r4) := by grind
  rw [q1, q2]; exact m2
theorem sh_hi (hx : 0 ≤ x) (hx1 : x ≤ 1) (h1 : x ≤ sx * sx) (h2 : 1 - x ≤ sy * sy) : fsC a b * fsC a b * shG a b k x ≤ fstR a b x sx sy * sR x a b k * (fstR a b x sx sy * sR x a b k) := by
  have e1 := rtF_sq_hi a h1
  have e2 := rtF_sq_hi b h2
  unfold shG
  rw [fstR_sq, pwR_half x a, pwR_half (1 - x) b]
  have n1 : 0 ≤ pwR x (a / 2) * pwR x (a / 2) := Rat.mul_nonneg (pwR_nn hx _) (pwR_nn hx _)
  have n2 : 0 ≤ pwR (1 - x) (b / 2) * pwR (1 - x) (b / 2) := Rat.mul_nonneg (pwR_nn (by grind) _) (pwR_nn (by grind) _)
  have n3 : 0 ≤ rtF a sx * rtF a sx := mul_self_nn _
  have n4 : 0 ≤ rtF b (1 - x) := rtF_nn b (by grind)
  have n5 : 0 ≤ fsC a b * fsC a b := mul_self_nn _
  have n6 : 0 ≤ sR x a b k * sR x a b k := mul_self_nn _
  have m := mul_both e1 e2 n3 n4
  have m2 := Rat.mul_le_mul_of_nonneg_left m (Rat.mul_nonneg (Rat.mul_nonneg n5 n6) (Rat.mul_nonneg n1 n2))
  generalize fsC a b = c at *
  generalize sR x a b k = s at *
  generalize pwR x (a / 2) = u at *
  generalize pwR (1 - x) (b / 2) = v at *
  generalize rtF a sx = r1 at *
  generalize rtF b sy = r2 at *
  generalize rtF a x = r3 at *
  generalize rtF b (1 - x) = r4 at *
  have q1 : c * (u * r1 * (v * r2)) * s * (c * (u * r1 * (v * r2)) * s) = c * c * (s * s) * (u * u * (v * v)) * (r1 * r1 * (r2 * r2)) := by grind
  have q2 : c * c * (u * u * r3 * (v * v * r4) * (s * s)) = c * c * (s * s) * (u * u * (v * v)) * (r3 * r4) := by grind
  rw [q1, q2]; exact m2
end
/-- What a row's ends tell of the share's square. -/
def RowS (a b w : Nat) (x : Rat) (A B : Nat) : Prop := ∃ K : Nat, ∀ m, K ≤ m → (A : Rat) * (A : Rat) ≤ fsC a b * fsC a b * shG a b m x * (p2 w * p2 w) ∧ fsC a b * fsC a b * shG a b m x * (p2 w * p2 w) ≤ (B : Rat) * (B : Rat)
theorem rows_le {a b w : Nat} {x y : Rat} {A B A' B' : Nat} (ha : 1 ≤ a) (ha2 : a ≤ 20) (hb2 : b ≤ 20) (h0 : 0 < x) (hxy : x ≤ y) (hy : y + y ≤ 1) (h : RowS a b w x A B) (h' : RowS a b w y A' B') : A ≤ B' := by
  obtain ⟨K, h⟩ := h
  obtain ⟨K', h'⟩ := h'
  have g := (h (max (max K K') 160) (by omega)).1
  have g' := (h' (max (max K K') 160) (by omega)).2
  have m := shG_up (a := a) (b := b) (k := max (max K K') 160) ha ha2 hb2 (by omega) h0 hxy hy
  have P : 0 ≤ p2 w * p2 w := mul_self_nn _
  have C : 0 ≤ fsC a b * fsC a b := mul_self_nn _
  have m2 := Rat.mul_le_mul_of_nonneg_right (Rat.mul_le_mul_of_nonneg_left m C) P
  have r := sq_mon (nat_nonneg A) (nat_nonneg B') (Rat.le_trans g (Rat.le_trans m2 g'))
  exact_mod_cast r
/-- Up to a half it is at most the half's. -/
theorem row_half_le {a b w : Nat} {x : Rat} {A B : Nat} (ha : 1 ≤ a) (ha2 : a ≤ 20) (hb : 1 ≤ b) (hb2 : b ≤ 20) (h0 : 0 < x) (hx : x + x ≤ 1) (h : RowS a b w x A B) : (A : Rat) ≤ hfHi a b * p2 w := by
  obtain ⟨K, h⟩ := h
  have g := (h (max K 160) (by omega)).1
  have P : 0 ≤ p2 w := Rat.le_of_lt (p2_pos w)
  have hh : (1 / 2 : Rat) + 1 / 2 = 1 := by decide +kernel
  have h2 : (0 : Rat) ≤ 1 / 2 := by decide +kernel
  have m := shG_up (a := a) (b := b) (k := max K 160) (y := 1 / 2) ha ha2 hb2 (by omega) h0 (by generalize (1 / 2 : Rat) = hf at *; grind) (by rw [hh]; exact Rat.le_refl)
  have e1 : (1 : Rat) - 1 / 2 = 1 / 2 := by decide +kernel
  have t := sh_hi (a := a) (b := b) (k := max K 160) (x := 1 / 2) (sx := S2) (sy := S2) h2 (by decide +kernel) S2_sq.1 (by rw [e1]; exact S2_sq.1)
  rw [fstR_is] at t
  have G := fsG_nn ha hb ha2 hb2
  have F := Rat.mul_nonneg G (Rat.mul_nonneg (rtF_nn a S2_nn) (rtF_nn b S2_nn))
  have s := Rat.mul_le_mul_of_nonneg_left (sR_top (a := a) (b := b) (k := 120) (m := max K 160) h2 (by rw [hh]; exact Rat.le_refl) (by omega)) F
  have s0 := Rat.mul_nonneg F (sR_nnH (a := a) (b := b) h2 (max K 160))
  unfold hfHi
  have C : 0 ≤ fsC a b * fsC a b := mul_self_nn _
  have m2 := Rat.mul_le_mul_of_nonneg_right (Rat.le_trans (Rat.mul_le_mul_of_nonneg_left m C) t) (mul_self_nn (p2 w))
  refine sq_mon (nat_nonneg A) (Rat.mul_nonneg (Rat.le_trans s0 s) P) (Rat.le_trans g (Rat.le_trans m2 ?_))
  have s1 := Rat.mul_le_mul_of_nonneg_right s P
  have z := mul_both s1 s1 (Rat.mul_nonneg (Rat.le_trans s0 s) P) (Rat.mul_nonneg s0 P)
  generalize fsG a b * (rtF a S2 * rtF b S2) * sR (1 / 2) a b (max K 160) = u1 at *
  generalize fsG a b * (rtF a S2 * rtF b S2) * (sR (1 / 2) a b 120 + 3 * rR (1 / 2) a b 120) = u2 at *
  have e : u1 * u1 * (p2 w * p2 w) = u1 * p2 w * (u1 * p2 w) := by grind
  rw [e]; exact z
theorem sq_pair (u w : Rat) : u * w * (u * w) = u * u * (w * w) := by grind
section
variable {x : Rat} {a b p L : Nat}
/-- The program's row tells so. -/
theorem row_sq (hz : szR x L) (hL1 : 1 ≤ L) (hL : L ≤ 200) (ha : 1 ≤ a) (ha2 : a ≤ 20) (hb : 1 ≤ b) (hb2 : b ≤ 20) (hp : p ≤ 80) (h0 : 0 ≤ x) (h1 : x + x ≤ 1) :
    ∃ A B : Nat, Go.Ev.Fn CX 28 [.int .i64 (a : Int), .int .i64 (b : Int), rv x, .int .i64 ((p + 300 : Nat) : Int)] (spanV A B) ∧ (lim A).length ≤ 100 ∧ (lim B).length ≤ 100 ∧ RowS a b (p + 300) x A B := by
  have hx1 : x ≤ 1 := by grind
  obtain ⟨F1, F2, p1, p2', q1, q2, fi, g1, g2, g3, r1, r2, r3, r4, r5, r6, r7, r8, hF⟩ := incb_fst (w := p + 300) ha ha2 hb hb2 hz hL1 hL h0 hx1 (by omega) (by omega)
  obtain ⟨A, B, K, hg⟩ := rowh_ends ha hb2 h0 h1 (by omega) (by omega) g1 g2 g3
  obtain ⟨k1, k2, k3⟩ := rowh_bd ha hb2 h0 h1 (by omega) g1 g2 g3 hg
  have f := incb_rowh ha ha2 hb hb2 hz (by omega) h0 h1 (by omega) (by omega) fi g1 g2 g3 hg
  have lB := lim_len_p2 k3 (by omega)
  have P := p2_pos (p + 300)
  have tell : ∀ sx sy, p1 ≤ sx → sx ≤ p2' → q1 ≤ sy → sy ≤ q2 → b ≤ K ∧ (A : Rat) ≤ fstR a b x sx sy * sR x a b K * p2 (p + 300) ∧ fstR a b x sx sy * sR x a b K * p2 (p + 300) + 64 ≤ (B : Rat) ∧ fstR a b x sx sy * rR x a b K * p2 (p + 300) ≤ 8 := by
    intro sx sy x1 x2 y1 y2
    have en := hF sx sy x1 x2 y1 y2
    have en1 : Enc (p + 300) F1 F2 (fstR a b x sx sy * rR x a b 0) := by
      show Enc _ _ _ (_ * 1)
      rw [Rat.mul_one]; exact en
    have en2 : Enc (p + 300) F1 F2 (fstR a b x sx sy * sR x a b 0) := en1
    exact row_enc (un_enc h0 (p + 300)) 2201 0 _ _ _ _ hg en1 en2
  have nn : ∀ sx sy, p1 ≤ sx → sx ≤ p2' → q1 ≤ sy → sy ≤ q2 → 0 ≤ fstR a b x sx sy := fun sx sy x1 x2 y1 y2 => enc_nonneg (hF sx sy x1 x2 y1 y2)
  refine ⟨A, B, f, Nat.le_trans (lim_len_mono k1) (by omega), by omega, K, fun m hm => ?_⟩
  obtain ⟨hbK, a1, -, -⟩ := tell p1 q1 Rat.le_refl r1 Rat.le_refl r5
  obtain ⟨-, -, b1, b2⟩ := tell p2' q2 r1 Rat.le_refl r5 Rat.le_refl
  have c1 := nn p1 q1 Rat.le_refl r1 Rat.le_refl r5
  have c2 := nn p2' q2 r1 Rat.le_refl r5 Rat.le_refl
  have s0 := sR_nnH (a := a) (b := b) h0 m
  have s1 := sR_up (a := a) (b := b) h0 hm
  have s2 := sR_top (a := a) (b := b) h0 h1 (k := K) (m := m) hbK
  have lo := sh_lo (a := a) (b := b) (k := m) h0 hx1 r3 r7
  have hi := sh_hi (a := a) (b := b) (k := m) h0 hx1 r4 r8
  have P0 : 0 ≤ p2 (p + 300) := Rat.le_of_lt P
  have A1 : (A : Rat) ≤ fstR a b x p1 q1 * sR x a b m * p2 (p + 300) := Rat.le_trans a1 (Rat.mul_le_mul_of_nonneg_right (Rat.mul_le_mul_of_nonneg_left s1 c1) P0)
  have B1 : fstR a b x p2' q2 * sR x a b m * p2 (p + 300) ≤ (B : Rat) := by
    have t := Rat.mul_le_mul_of_nonneg_right (Rat.mul_le_mul_of_nonneg_left s2 c2) P0
    refine Rat.le_trans t ?_
    clear f fi hg hF tell nn lB lo hi A1 k3 g3
    generalize fstR a b x p2' q2 = u at *
    generalize sR x a b K = v at *
    generalize rR x a b K = v' at *
    generalize p2 (p + 300) = w at *
    have e : u * (v + 3 * v') * w = u * v * w + 3 * (u * v' * w) := by grind
    rw [e]; grind
  have n1 : 0 ≤ fstR a b x p1 q1 * sR x a b m * p2 (p + 300) := Rat.mul_nonneg (Rat.mul_nonneg c1 s0) P0
  have n2 : 0 ≤ fstR a b x p2' q2 * sR x a b m * p2 (p + 300) := Rat.mul_nonneg (Rat.mul_nonneg c2 s0) P0
  have A2 := mul_both A1 A1 n1 (nat_nonneg A)
  have B2 := mul_both B1 B1 (nat_nonneg B) n2
  have lo2 := Rat.mul_le_mul_of_nonneg_right lo (mul_self_nn (p2 (p + 300)))
  have hi2 := Rat.mul_le_mul_of_nonneg_right hi (mul_self_nn (p2 (p + 300)))
  rw [sq_pair] at A2 B2
  exact ⟨Rat.le_trans A2 lo2, Rat.le_trans hi2 B2⟩
end
end Go.Proofs.YtigiblhmhmgagaaGreat

/- incb.I: of a greater number the share is not below; both turned round are all: balls that may be, in the evaluator. -/
namespace Go.Proofs.YtigiblhmhmgagaaGreat
open Go.Ev
set_option linter.unusedVariables false
theorem hfHi_nn {a b : Nat} (ha : 1 ≤ a) (ha2 : a ≤ 20) (hb : 1 ≤ b) (hb2 : b ≤ 20) : 0 ≤ hfHi a b := by
  have hh : (1 / 2 : Rat) + 1 / 2 = 1 := by decide +kernel
  have h2 : (0 : Rat) ≤ 1 / 2 := by decide +kernel
  have G := fsG_nn ha hb ha2 hb2
  have F := Rat.mul_nonneg G (Rat.mul_nonneg (rtF_nn a S2_nn) (rtF_nn b S2_nn))
  have s := Rat.mul_le_mul_of_nonneg_left (sR_top (a := a) (b := b) (k := 120) (m := 160) h2 (by rw [hh]; exact Rat.le_refl) (by omega)) F
  have s0 := Rat.mul_nonneg F (sR_nnH (a := a) (b := b) h2 160)
  unfold hfHi
  exact Rat.le_trans s0 s
theorem cnN0 : ((0 : Nat) : Rat) = 0 := rfl
/-- Two lower ends that are at most the halves' are told as at most 1 together. -/
theorem lows_le {a b p A A' : Nat} (ha : 1 ≤ a) (ha2 : a ≤ 20) (hb : 1 ≤ b) (hb2 : b ≤ 20) (hp : p ≤ 60) (h : (A : Rat) ≤ hfHi a b * p2 (p + 300)) (h' : (A' : Rat) ≤ hfHi b a * p2 (p + 300)) : toldLo A p + toldLo A' p ≤ 1 := by
  obtain ⟨s1, s2⟩ := hf_sum ha hb ha2 hb2
  have W := p2_pos (p + 300)
  refine (told_sum (A1 := A) (A2 := A') (B1 := 2 ^ (p + 300)) (B2 := 0) hp ?_ ?_).1
  · have k : (((A + A') * 73786976294838206464 : Nat) : Rat) ≤ ((73786976294838206465 * 2 ^ (p + 300) : Nat) : Rat) := by
      rw [cmN, cmN, cnN]
      show ((A : Rat) + (A' : Rat)) * 73786976294838206464 ≤ 73786976294838206465 * p2 (p + 300)
      have m := Rat.mul_le_mul_of_nonneg_right s2 (show 0 ≤ p2 (p + 300) by grind)
      generalize p2 (p + 300) = w at *
      generalize hfHi a b = q1 at *
      generalize hfHi b a = q2 at *
      grind
    exact_mod_cast k
  · generalize 2 ^ (p + 300) = M
    omega
theorem lo_le1 {a b p A : Nat} (ha : 1 ≤ a) (ha2 : a ≤ 20) (hb : 1 ≤ b) (hb2 : b ≤ 20) (hp : p ≤ 60) (h : (A : Rat) ≤ hfHi a b * p2 (p + 300)) : toldLo A p ≤ 1 := by
  have W := p2_pos (p + 300)
  have t := lows_le (A' := 0) ha ha2 hb hb2 hp h (Rat.mul_nonneg (hfHi_nn hb hb2 ha ha2) (Rat.le_of_lt W))
  have z : 0 ≤ toldLo 0 p := by
    unfold toldLo
    have m := mk_p2n (0 / 2 ^ (p + 300 - (p + 2))) (p + 2)
    refine le_by (p2_pos (p + 2)) ?_
    rw [m, Rat.zero_mul]; exact nat_nonneg _
  grind
theorem hi_nn {B p : Nat} : 0 ≤ toldHi B p := by
  unfold toldHi
  have m := mk_p2n (B / 2 ^ (p + 300 - (p + 2)) + 1) (p + 2)
  refine le_by (p2_pos (p + 2)) ?_
  rw [m, Rat.zero_mul]; exact nat_nonneg _
section
variable {x y : Rat} {a b p L : Nat} {v v' : SV}
/-- A ball of the share between the ends, and what its ends tell. -/
def BallS (a b p : Nat) (x l h : Rat) : Prop :=
  (x + x ≤ 1 ∧ ∃ A B : Nat, RowS a b (p + 300) x A B ∧ A ≤ B ∧ l = toldLo A p ∧ h = toldHi B p) ∨
  (1 < x + x ∧ ∃ A B : Nat, RowS b a (p + 300) (1 - x) A B ∧ A ≤ B ∧ l = 1 - toldHi B p ∧ h = 1 - toldLo A p)
theorem rows_ab {a b w : Nat} {x : Rat} {A B : Nat} (h : RowS a b w x A B) : A ≤ B := by
  obtain ⟨K, h⟩ := h
  have g := h K (Nat.le_refl _)
  have r := sq_mon (nat_nonneg A) (nat_nonneg B) (Rat.le_trans g.1 g.2)
  exact_mod_cast r
theorem incb_ball (hv : RatA v x L) (hL1 : 1 ≤ L) (hL : L ≤ 190) (ha : 1 ≤ a) (ha2 : a ≤ 20) (hb : 1 ≤ b) (hb2 : b ≤ 20) (hp : p ≤ 60) (h0 : 0 < x) (h1 : x < 1) :
    ∃ l h : Rat, Go.Ev.Fn CX 8 [.int .i64 (a : Int), .int .i64 (b : Int), v, .int .i64 (p : Int)] (.tup [ballR l h, .bool true]) ∧ szR l 200 ∧ szR h 200 ∧ BallS a b p x l h := by
  have zx := szR_of hv hL1
  have one1 : szR 1 1 := ⟨lim_len_lt (by decide +kernel), lim_len_lt (by decide +kernel)⟩
  by_cases hh : x + x ≤ 1
  · obtain ⟨A, B, f, g2, g3, rs⟩ := row_sq (a := a) (b := b) (p := p) zx hL1 (by omega) ha ha2 hb hb2 (by omega) (Rat.le_of_lt h0) hh
    have f1 := incb_I_lo hv hL1 (by omega) ha ha2 hb hb2 (by omega) h0 hh f ⟨g2, g3⟩
    obtain ⟨z1, z2⟩ := told_sz (p := p) (by omega) g2 g3
    exact ⟨_, _, f1, szR_mono z1 (by omega), szR_mono z2 (by omega), .inl ⟨hh, A, B, rs, rows_ab rs, rfl, rfl⟩⟩
  · have zy := szR_sub one1 zx (by omega)
    have hh' : 1 < x + x := by grind
    obtain ⟨A, B, f, g2, g3, rs⟩ := row_sq (x := 1 - x) (a := b) (b := a) (p := p) zy (by omega) (by omega) hb hb2 ha ha2 (by omega) (by grind) (by grind)
    have f1 := incb_I_hi hv hL1 (by omega) ha ha2 hb hb2 (by omega) hh' h1 f ⟨g2, g3⟩
    obtain ⟨z1, z2⟩ := told_sz (p := p) (by omega) g2 g3
    exact ⟨_, _, f1, szR_mono (szR_sub one1 z2 (by omega)) (by omega), szR_mono (szR_sub one1 z1 (by omega)) (by omega), .inr ⟨hh', A, B, rs, rows_ab rs, rfl, rfl⟩⟩
theorem ball_le {l h : Rat} (g : BallS a b p x l h) : l ≤ h := by
  rcases g with ⟨-, A, B, -, k, rfl, rfl⟩ | ⟨-, A, B, -, k, rfl, rfl⟩
  · exact told_le k
  · have := told_le (p := p) k
    grind
theorem ball_01 {l h : Rat} (ha : 1 ≤ a) (ha2 : a ≤ 20) (hb : 1 ≤ b) (hb2 : b ≤ 20) (hp : p ≤ 60) (h0 : 0 < x) (h1 : x < 1) (g : BallS a b p x l h) : 0 ≤ h ∧ l ≤ 1 := by
  rcases g with ⟨k, A, B, rs, -, rfl, rfl⟩ | ⟨k, A, B, rs, -, rfl, rfl⟩
  · exact ⟨hi_nn, lo_le1 ha ha2 hb hb2 hp (row_half_le ha ha2 hb hb2 h0 k rs)⟩
  · have t := lo_le1 hb hb2 ha ha2 hp (row_half_le hb hb2 ha ha2 (by grind) (by grind) rs)
    have := hi_nn (B := B) (p := p)
    exact ⟨by grind, by grind⟩
/-- Of the greater number the greater end is not below the lesser one of the lesser number. -/
theorem ball_mono {l h l' h' : Rat} (ha : 1 ≤ a) (ha2 : a ≤ 20) (hb : 1 ≤ b) (hb2 : b ≤ 20) (hp : p ≤ 60) (h0 : 0 < x) (hxy : x ≤ y) (h1 : y < 1) (g : BallS a b p x l h) (g' : BallS a b p y l' h') : l ≤ h' := by
  rcases g with ⟨k, A, B, rs, -, rfl, rfl⟩ | ⟨k, A, B, rs, -, rfl, rfl⟩ <;> rcases g' with ⟨k', A', B', rs', -, rfl, rfl⟩ | ⟨k', A', B', rs', -, rfl, rfl⟩
  · have r := rows_le ha ha2 hb2 h0 hxy k' rs rs'
    exact told_le r
  · have t := lows_le ha ha2 hb hb2 hp (row_half_le ha ha2 hb hb2 h0 k rs) (row_half_le hb hb2 ha ha2 (show 0 < 1 - y by grind) (by grind) rs')
    grind
  · exact absurd k (by grind)
  · have r := rows_le hb hb2 ha2 (show 0 < 1 - y by grind) (show 1 - y ≤ 1 - x by grind) (by grind) rs' rs
    have := told_le (p := p) r
    grind
end
end Go.Proofs.YtigiblhmhmgagaaGreat

/- vernierlaw12.IncbRises, in the evaluator. -/
namespace Go.Proofs.YtigiblhmhmgagaaGreat
set_option linter.unusedSimpArgs false
set_option linter.unusedVariables false
set_option maxRecDepth 8000
open Go.Ev
set_option linter.unusedVariables false
/-- A ball whose lower end is not above another one's greater end is not above that ball. -/
theorem ref4_SideLe {a b c d : Rat} {L M : Nat} (ha : szR a L) (hb : szR b L) (hc : szR c M) (hd : szR d M) (hL1 : 1 ≤ L) (hM1 : 1 ≤ M) (hL : L + M ≤ 100000) (h2 : a ≤ d) : ∃ n : Int, -1 ≤ n ∧ n ≤ 0 ∧ Go.Ev.Fn CX 18 [ballR a b, ballR c d] (.int .i64 n) := by
  by_cases h1 : c ≤ b
  · exact ⟨0, by omega, by omega, ref4_Side0 ha hb hc hd hL1 hM1 hL h1 h2⟩
  · refine ⟨-1, by omega, by omega, ?_⟩
    have c1 := ref2_Cmp (RatA_rv hb) (RatA_rv hc) hL1 hM1 (by omega)
    have e1 : decide (cmpR b c < 0) = true := by rw [cmpR_lt]; exact decide_eq_true (by grind)
    generalize cmpR b c = z1 at *
    refine Go.Ev.Fn.intro (fn := Tryz.f18) (body := (Tryz.f18).body.get!) (by kernel_rfl) (by kernel_rfl) (by kernel_rfl) (fun _ => rfl) (Nat.le_of_ble_eq_true (by kernel_rfl)) ?_; unfold Tryz.f18; simp only [Option.get!_some]
    repeat (first | (simp only [go_sem, Nat.reduceEqDiff, Nat.reduceAdd, Nat.reduceSub, Nat.reduceMul, Nat.reduceLeDiff, Nat.reduceLT, reduceIte, reduceCtorEq, Nat.succ_ne_zero, elemsC, Int.reduceToNat, Nat.reducePow, e1]) | (simp (disch := (first | omega | (simp only [AL, List.length_map]; omega))) only [AR, AL, ifT, ifF, take_all, List.length_cons, List.length_nil, Int.reduceToNat, Int.reducePow, Nat.reducePow, e1]) | (refine wk_intro (by kernel_rfl) ?_) | (refine vf_of (by first | exact c1) ?_))
section
variable {x y : Rat} {a b p : Int} {s s' : Bool} {n d n' d' : List Nat}
theorem law12_big2 (hn : n.length ≤ 9223372036854775807) (hd : d.length ≤ 9223372036854775807) (hn' : n'.length ≤ 9223372036854775807) (hd' : d'.length ≤ 9223372036854775807) : Go.Ev.Fn CX 6 [.sl 2 [.bool s, natV n, natV d, .bool s', natV n', natV d']] (.bool (decide (3 < n.length) || decide (3 < d.length) || (decide (3 < n'.length) || decide (3 < d'.length)))) := by
  refine Go.Ev.Fn.intro (fn := Tryz.f6) (body := (Tryz.f6).body.get!) (by kernel_rfl) (by kernel_rfl) (by kernel_rfl) (fun _ => rfl) (Nat.le_of_ble_eq_true (by kernel_rfl)) ?_; unfold Tryz.f6; simp only [Option.get!_some]
  repeat (first | (simp only [go_sem, Nat.reduceEqDiff, Nat.reduceAdd, Nat.reduceSub, Nat.reduceMul, Nat.reduceLeDiff, Nat.reduceLT, reduceIte, reduceCtorEq, Nat.succ_ne_zero, elemsC, Int.reduceToNat, Nat.reducePow]) | (simp (disch := (first | omega | (simp only [AL, List.length_map]; omega))) only [AR, AL, ifT, ifF, take_all, List.length_cons, List.length_nil, Int.reduceToNat, Int.reducePow, Nat.reducePow]) | (refine wk_intro (by kernel_rfl) ?_))
  refine vp_loop_inv (fun st => st.tmp 0 = .sv (.sl 2 [.bool s, natV n, natV d, .bool s', natV n', natV d']) ∧ ((st.tmp 3 = .sv (.int .i64 0)) ∨ (st.tmp 3 = .sv (.int .i64 1) ∧ n.length ≤ 3 ∧ d.length ≤ 3) ∨ (st.tmp 3 = .sv (.int .i64 2) ∧ n.length ≤ 3 ∧ d.length ≤ 3 ∧ n'.length ≤ 3 ∧ d'.length ≤ 3)))
    (fun st => match st.tmp 3 with | .sv (.int _ i) => 2 - i.toNat | _ => 0) ⟨rfl, .inl rfl⟩ ?_
  rintro st ⟨i0, i3 | ⟨i3, h1, h2⟩ | ⟨i3, h1, h2, h3, h4⟩⟩
  · by_cases h1 : 3 < n.length
    · rw [decide_eq_true h1, Bool.true_or, Bool.true_or]
      repeat (first | (simp only [go_sem, Nat.reduceEqDiff, Nat.reduceAdd, Nat.reduceSub, Nat.reduceMul, Nat.reduceLeDiff, Nat.reduceLT, reduceIte, reduceCtorEq, Nat.succ_ne_zero, elemsC, Int.reduceToNat, Nat.reducePow, i0, i3]) | (simp (disch := (first | omega | (simp only [AL, List.length_map]; omega))) only [AR, AL, ifT, ifF, take_all, List.length_cons, List.length_nil, Int.reduceToNat, Int.reducePow, Nat.reducePow, i0, i3]) | (refine wk_intro (by kernel_rfl) ?_))
    · rw [decide_eq_false h1, Bool.false_or]
      by_cases h2 : 3 < d.length
      · rw [decide_eq_true h2, Bool.true_or]
        repeat (first | (simp only [go_sem, Nat.reduceEqDiff, Nat.reduceAdd, Nat.reduceSub, Nat.reduceMul, Nat.reduceLeDiff, Nat.reduceLT, reduceIte, reduceCtorEq, Nat.succ_ne_zero, elemsC, Int.reduceToNat, Nat.reducePow, i0, i3]) | (simp (disch := (first | omega | (simp only [AL, List.length_map]; omega))) only [AR, AL, ifT, ifF, take_all, List.length_cons, List.length_nil, Int.reduceToNat, Int.reducePow, Nat.reducePow, i0, i3]) | (refine wk_intro (by kernel_rfl) ?_))
      · rw [decide_eq_false h2, Bool.false_or]
        repeat (first | (simp only [go_sem, Nat.reduceEqDiff, Nat.reduceAdd, Nat.reduceSub, Nat.reduceMul, Nat.reduceLeDiff, Nat.reduceLT, reduceIte, reduceCtorEq, Nat.succ_ne_zero, elemsC, Int.reduceToNat, Nat.reducePow, i0, i3]) | (simp (disch := (first | omega | (simp only [AL, List.length_map]; omega))) only [AR, AL, ifT, ifF, take_all, List.length_cons, List.length_nil, Int.reduceToNat, Int.reducePow, Nat.reducePow, i0, i3]) | (refine wk_intro (by kernel_rfl) ?_))
        first | exact ⟨.inr (.inl ⟨rfl, by omega, by omega⟩), by decide⟩ | exact ⟨by omega, by omega⟩
  · rw [decide_eq_false (show ¬ 3 < n.length by omega), decide_eq_false (show ¬ 3 < d.length by omega), Bool.or_false, Bool.false_or]
    by_cases h3 : 3 < n'.length
    · rw [decide_eq_true h3, Bool.true_or]
      repeat (first | (simp only [go_sem, Nat.reduceEqDiff, Nat.reduceAdd, Nat.reduceSub, Nat.reduceMul, Nat.reduceLeDiff, Nat.reduceLT, reduceIte, reduceCtorEq, Nat.succ_ne_zero, elemsC, Int.reduceToNat, Nat.reducePow, i0, i3]) | (simp (disch := (first | omega | (simp only [AL, List.length_map]; omega))) only [AR, AL, ifT, ifF, take_all, List.length_cons, List.length_nil, Int.reduceToNat, Int.reducePow, Nat.reducePow, i0, i3]) | (refine wk_intro (by kernel_rfl) ?_))
    · rw [decide_eq_false h3, Bool.false_or]
      by_cases h4 : 3 < d'.length
      · rw [decide_eq_true h4]
        repeat (first | (simp only [go_sem, Nat.reduceEqDiff, Nat.reduceAdd, Nat.reduceSub, Nat.reduceMul, Nat.reduceLeDiff, Nat.reduceLT, reduceIte, reduceCtorEq, Nat.succ_ne_zero, elemsC, Int.reduceToNat, Nat.reducePow, i0, i3]) | (simp (disch := (first | omega | (simp only [AL, List.length_map]; omega))) only [AR, AL, ifT, ifF, take_all, List.length_cons, List.length_nil, Int.reduceToNat, Int.reducePow, Nat.reducePow, i0, i3]) | (refine wk_intro (by kernel_rfl) ?_))
      · rw [decide_eq_false h4]
        repeat (first | (simp only [go_sem, Nat.reduceEqDiff, Nat.reduceAdd, Nat.reduceSub, Nat.reduceMul, Nat.reduceLeDiff, Nat.reduceLT, reduceIte, reduceCtorEq, Nat.succ_ne_zero, elemsC, Int.reduceToNat, Nat.reducePow, i0, i3]) | (simp (disch := (first | omega | (simp only [AL, List.length_map]; omega))) only [AR, AL, ifT, ifF, take_all, List.length_cons, List.length_nil, Int.reduceToNat, Int.reducePow, Nat.reducePow, i0, i3]) | (refine wk_intro (by kernel_rfl) ?_))
        first | exact ⟨.inr (.inr ⟨rfl, by omega, by omega, by omega, by omega⟩), by decide⟩ | exact ⟨⟨by omega, by omega, by omega, by omega⟩, by decide⟩ | exact ⟨by omega, by omega⟩
  · rw [decide_eq_false (show ¬ 3 < n.length by omega), decide_eq_false (show ¬ 3 < d.length by omega), decide_eq_false (show ¬ 3 < n'.length by omega), decide_eq_false (show ¬ 3 < d'.length by omega), Bool.or_false, Bool.or_false]
    repeat (first | (simp only [go_sem, Nat.reduceEqDiff, Nat.reduceAdd, Nat.reduceSub, Nat.reduceMul, Nat.reduceLeDiff, Nat.reduceLT, reduceIte, reduceCtorEq, Nat.succ_ne_zero, elemsC, Int.reduceToNat, Nat.reducePow, i0, i3]) | (simp (disch := (first | omega | (simp only [AL, List.length_map]; omega))) only [AR, AL, ifT, ifF, take_all, List.length_cons, List.length_nil, Int.reduceToNat, Int.reducePow, Nat.reducePow, i0, i3]) | (refine wk_intro (by kernel_rfl) ?_))
set_option maxHeartbeats 2000000 in
theorem rises_out (hn : n.length ≤ 9223372036854775807) (hd : d.length ≤ 9223372036854775807) (hn' : n'.length ≤ 9223372036854775807) (hd' : d'.length ≤ 9223372036854775807) (ha : -9223372036854775808 ≤ a ∧ a < 9223372036854775808) (hb : -9223372036854775808 ≤ b ∧ b < 9223372036854775808) (hp : -9223372036854775808 ≤ p ∧ p < 9223372036854775808)
    (h : 3 < n.length ∨ 3 < d.length ∨ 3 < n'.length ∨ 3 < d'.length ∨ p < 0 ∨ 60 < p ∨ a < 1 ∨ b < 1 ∨ 20 < a ∨ 20 < b) : Go.Ev.Fn CX 5 [.int .i64 a, .int .i64 b, ratV s n d, ratV s' n' d', .int .i64 p] (.bool true) := by
  have bg := law12_big2 (s := s) (s' := s') hn hd hn' hd'
  by_cases c0 : 3 < n.length ∨ 3 < d.length ∨ 3 < n'.length ∨ 3 < d'.length
  · rw [show (decide (3 < n.length) || decide (3 < d.length) || (decide (3 < n'.length) || decide (3 < d'.length))) = true by rw [← Bool.decide_or, ← Bool.decide_or, ← Bool.decide_or]; exact decide_eq_true (by omega)] at bg
    refine Go.Ev.Fn.intro (fn := Tryz.f5) (body := (Tryz.f5).body.get!) (by kernel_rfl) (by kernel_rfl) (by kernel_rfl) (fun _ => rfl) (Nat.le_of_ble_eq_true (by kernel_rfl)) ?_; unfold Tryz.f5; simp only [Option.get!_some]
    repeat (first | (simp only [go_sem, Nat.reduceEqDiff, Nat.reduceAdd, Nat.reduceSub, Nat.reduceMul, Nat.reduceLeDiff, Nat.reduceLT, reduceIte, reduceCtorEq, Nat.succ_ne_zero, elemsC, Int.reduceToNat, Nat.reducePow]) | (simp (disch := (first | omega | (simp only [AL, List.length_map]; omega))) only [AR, AL, ifT, ifF, take_all, List.length_cons, List.length_nil, Int.reduceToNat, Int.reducePow, Nat.reducePow]) | (refine wk_intro (by kernel_rfl) ?_) | (refine vp_draw (id := 7) (l := []) (by kernel_rfl) ?_) | (refine vf_of (by first | exact bg) ?_))
  rw [show (decide (3 < n.length) || decide (3 < d.length) || (decide (3 < n'.length) || decide (3 < d'.length))) = false by rw [← Bool.decide_or, ← Bool.decide_or, ← Bool.decide_or]; exact decide_eq_false (by omega)] at bg
  by_cases c1 : p < 0
  · refine Go.Ev.Fn.intro (fn := Tryz.f5) (body := (Tryz.f5).body.get!) (by kernel_rfl) (by kernel_rfl) (by kernel_rfl) (fun _ => rfl) (Nat.le_of_ble_eq_true (by kernel_rfl)) ?_; unfold Tryz.f5; simp only [Option.get!_some]
    repeat (first | (simp only [go_sem, Nat.reduceEqDiff, Nat.reduceAdd, Nat.reduceSub, Nat.reduceMul, Nat.reduceLeDiff, Nat.reduceLT, reduceIte, reduceCtorEq, Nat.succ_ne_zero, elemsC, Int.reduceToNat, Nat.reducePow]) | (simp (disch := (first | omega | (simp only [AL, List.length_map]; omega))) only [AR, AL, ifT, ifF, take_all, List.length_cons, List.length_nil, Int.reduceToNat, Int.reducePow, Nat.reducePow]) | (refine wk_intro (by kernel_rfl) ?_) | (refine vp_draw (id := 7) (l := []) (by kernel_rfl) ?_) | (refine vf_of (by first | exact bg) ?_))
  by_cases c2 : 60 < p
  · refine Go.Ev.Fn.intro (fn := Tryz.f5) (body := (Tryz.f5).body.get!) (by kernel_rfl) (by kernel_rfl) (by kernel_rfl) (fun _ => rfl) (Nat.le_of_ble_eq_true (by kernel_rfl)) ?_; unfold Tryz.f5; simp only [Option.get!_some]
    repeat (first | (simp only [go_sem, Nat.reduceEqDiff, Nat.reduceAdd, Nat.reduceSub, Nat.reduceMul, Nat.reduceLeDiff, Nat.reduceLT, reduceIte, reduceCtorEq, Nat.succ_ne_zero, elemsC, Int.reduceToNat, Nat.reducePow]) | (simp (disch := (first | omega | (simp only [AL, List.length_map]; omega))) only [AR, AL, ifT, ifF, take_all, List.length_cons, List.length_nil, Int.reduceToNat, Int.reducePow, Nat.reducePow]) | (refine wk_intro (by kernel_rfl) ?_) | (refine vp_draw (id := 7) (l := []) (by kernel_rfl) ?_) | (refine vf_of (by first | exact bg) ?_))
  by_cases c3 : a < 1
  · refine Go.Ev.Fn.intro (fn := Tryz.f5) (body := (Tryz.f5).body.get!) (by kernel_rfl) (by kernel_rfl) (by kernel_rfl) (fun _ => rfl) (Nat.le_of_ble_eq_true (by kernel_rfl)) ?_; unfold Tryz.f5; simp only [Option.get!_some]
    repeat (first | (simp only [go_sem, Nat.reduceEqDiff, Nat.reduceAdd, Nat.reduceSub, Nat.reduceMul, Nat.reduceLeDiff, Nat.reduceLT, reduceIte, reduceCtorEq, Nat.succ_ne_zero, elemsC, Int.reduceToNat, Nat.reducePow]) | (simp (disch := (first | omega | (simp only [AL, List.length_map]; omega))) only [AR, AL, ifT, ifF, take_all, List.length_cons, List.length_nil, Int.reduceToNat, Int.reducePow, Nat.reducePow]) | (refine wk_intro (by kernel_rfl) ?_) | (refine vp_draw (id := 7) (l := []) (by kernel_rfl) ?_) | (refine vf_of (by first | exact bg) ?_))
  by_cases c4 : b < 1
  · refine Go.Ev.Fn.intro (fn := Tryz.f5) (body := (Tryz.f5).body.get!) (by kernel_rfl) (by kernel_rfl) (by kernel_rfl) (fun _ => rfl) (Nat.le_of_ble_eq_true (by kernel_rfl)) ?_; unfold Tryz.f5; simp only [Option.get!_some]
    repeat (first | (simp only [go_sem, Nat.reduceEqDiff, Nat.reduceAdd, Nat.reduceSub, Nat.reduceMul, Nat.reduceLeDiff, Nat.reduceLT, reduceIte, reduceCtorEq, Nat.succ_ne_zero, elemsC, Int.reduceToNat, Nat.reducePow]) | (simp (disch := (first | omega | (simp only [AL, List.length_map]; omega))) only [AR, AL, ifT, ifF, take_all, List.length_cons, List.length_nil, Int.reduceToNat, Int.reducePow, Nat.reducePow]) | (refine wk_intro (by kernel_rfl) ?_) | (refine vp_draw (id := 7) (l := []) (by kernel_rfl) ?_) | (refine vf_of (by first | exact bg) ?_))
  by_cases c5 : 20 < a
  · refine Go.Ev.Fn.intro (fn := Tryz.f5) (body := (Tryz.f5).body.get!) (by kernel_rfl) (by kernel_rfl) (by kernel_rfl) (fun _ => rfl) (Nat.le_of_ble_eq_true (by kernel_rfl)) ?_; unfold Tryz.f5; simp only [Option.get!_some]
    repeat (first | (simp only [go_sem, Nat.reduceEqDiff, Nat.reduceAdd, Nat.reduceSub, Nat.reduceMul, Nat.reduceLeDiff, Nat.reduceLT, reduceIte, reduceCtorEq, Nat.succ_ne_zero, elemsC, Int.reduceToNat, Nat.reducePow]) | (simp (disch := (first | omega | (simp only [AL, List.length_map]; omega))) only [AR, AL, ifT, ifF, take_all, List.length_cons, List.length_nil, Int.reduceToNat, Int.reducePow, Nat.reducePow]) | (refine wk_intro (by kernel_rfl) ?_) | (refine vp_draw (id := 7) (l := []) (by kernel_rfl) ?_) | (refine vf_of (by first | exact bg) ?_))
  · have c6 : 20 < b := by omega
    refine Go.Ev.Fn.intro (fn := Tryz.f5) (body := (Tryz.f5).body.get!) (by kernel_rfl) (by kernel_rfl) (by kernel_rfl) (fun _ => rfl) (Nat.le_of_ble_eq_true (by kernel_rfl)) ?_; unfold Tryz.f5; simp only [Option.get!_some]
    repeat (first | (simp only [go_sem, Nat.reduceEqDiff, Nat.reduceAdd, Nat.reduceSub, Nat.reduceMul, Nat.reduceLeDiff, Nat.reduceLT, reduceIte, reduceCtorEq, Nat.succ_ne_zero, elemsC, Int.reduceToNat, Nat.reducePow]) | (simp (disch := (first | omega | (simp only [AL, List.length_map]; omega))) only [AR, AL, ifT, ifF, take_all, List.length_cons, List.length_nil, Int.reduceToNat, Int.reducePow, Nat.reducePow]) | (refine wk_intro (by kernel_rfl) ?_) | (refine vp_draw (id := 7) (l := []) (by kernel_rfl) ?_) | (refine vf_of (by first | exact bg) ?_))
set_option maxHeartbeats 2000000 in
/-- The walk, with both balls as they are. -/
theorem rises_in {l h l' h' : Rat} {ok is : Bool} (hv : RatA (ratV s n d) x 3) (hw : RatA (ratV s' n' d') y 3) (hn : n.length ≤ 3) (hd : d.length ≤ 3) (hn' : n'.length ≤ 3) (hd' : d'.length ≤ 3) (ha : 1 ≤ a ∧ a ≤ 20) (hb : 1 ≤ b ∧ b ≤ 20) (hp : 0 ≤ p ∧ p ≤ 60) (hxy : x ≤ y)
    (f1 : Go.Ev.Fn CX 8 [.int .i64 a, .int .i64 b, ratV s n d, .int .i64 p] (.tup [ballR l h, .bool ok])) (f2 : Go.Ev.Fn CX 8 [.int .i64 a, .int .i64 b, ratV s' n' d', .int .i64 p] (.tup [ballR l' h', .bool is]))
    (z1 : szR l 200) (z2 : szR h 200) (z3 : szR l' 200) (z4 : szR h' 200) (g : ok = true → is = true → l ≤ h') :
    Go.Ev.Fn CX 5 [.int .i64 a, .int .i64 b, ratV s n d, ratV s' n' d', .int .i64 p] (.bool true) := by
  have bg := law12_big2 (s := s) (s' := s') (n := n) (d := d) (n' := n') (d' := d') (by omega) (by omega) (by omega) (by omega)
  rw [show (decide (3 < n.length) || decide (3 < d.length) || (decide (3 < n'.length) || decide (3 < d'.length))) = false by rw [← Bool.decide_or, ← Bool.decide_or, ← Bool.decide_or]; exact decide_eq_false (by omega)] at bg
  have cm := ref2_Cmp hv hw (by omega) (by omega) (by omega)
  have e1 : decide (cmpR x y > 0) = false := by rw [cmpR_gt]; exact decide_eq_false (by grind)
  have i0 := ref2_Int 0 (by omega)
  have i1 := ref2_Int 1 (by omega)
  have zr0 : szR ((0 : Int) : Rat) 2 := int_szR (by omega)
  have zr1 : szR ((1 : Int) : Rat) 2 := int_szR (by omega)
  have o0 := ref4_Of (RatA_rv zr0) (by omega)
  have o1 := ref4_Of (RatA_rv zr1) (by omega)
  have s0 := ref4_Same zr0 zr0 (by omega) (by omega)
  have s1 := ref4_Same zr1 zr1 (by omega) (by omega)
  have e0 := incb_I_ends (a := a) (b := b) (pI := p) (RatA_rv zr0) (by omega) (by omega) (by omega) (by omega) (.inl rfl)
  have e1' := incb_I_ends (a := a) (b := b) (pI := p) (RatA_rv zr1) (by omega) (by omega) (by omega) (by omega) (.inr rfl)
  have kn := known12
  have sd : ok = true → is = true → ∃ n : Int, -1 ≤ n ∧ n ≤ 0 ∧ Go.Ev.Fn CX 18 [ballR l h, ballR l' h'] (.int .i64 n) := fun h1 h2 => ref4_SideLe z1 z2 z3 z4 (by omega) (by omega) (by omega) (g h1 h2)
  clear g z1 z2 z3 z4 hv hw hxy zr0 zr1
  generalize ((0 : Int) : Rat) = q0 at *
  generalize ((1 : Int) : Rat) = q1 at *
  generalize cmpR x y = z at *
  cases ok with
  | false =>
    clear sd
    refine Go.Ev.Fn.intro (fn := Tryz.f5) (body := (Tryz.f5).body.get!) (by kernel_rfl) (by kernel_rfl) (by kernel_rfl) (fun _ => rfl) (Nat.le_of_ble_eq_true (by kernel_rfl)) ?_; unfold Tryz.f5; simp only [Option.get!_some]
    repeat (first | (simp only [go_sem, Nat.reduceEqDiff, Nat.reduceAdd, Nat.reduceSub, Nat.reduceMul, Nat.reduceLeDiff, Nat.reduceLT, reduceIte, reduceCtorEq, Nat.succ_ne_zero, elemsC, Int.reduceToNat, Nat.reducePow, e1, Bool.not_false]) | (simp (disch := (first | omega | (simp only [AL, List.length_map]; omega))) only [AR, AL, ifT, ifF, take_all, List.length_cons, List.length_nil, Int.reduceToNat, Int.reducePow, Nat.reducePow, e1, Bool.not_false]) | (refine wk_intro (by kernel_rfl) ?_) | (refine vp_draw (id := 7) (l := []) (by kernel_rfl) ?_) | (refine vf_of (by first | exact bg | exact cm | exact f1 | exact f2 | exact i0 | exact e0 | exact i1 | exact e1' | exact o0 | exact s0 | exact o1 | exact s1 | exact kn) ?_))
  | true =>
    cases is with
    | false =>
      clear sd
      refine Go.Ev.Fn.intro (fn := Tryz.f5) (body := (Tryz.f5).body.get!) (by kernel_rfl) (by kernel_rfl) (by kernel_rfl) (fun _ => rfl) (Nat.le_of_ble_eq_true (by kernel_rfl)) ?_; unfold Tryz.f5; simp only [Option.get!_some]
      repeat (first | (simp only [go_sem, Nat.reduceEqDiff, Nat.reduceAdd, Nat.reduceSub, Nat.reduceMul, Nat.reduceLeDiff, Nat.reduceLT, reduceIte, reduceCtorEq, Nat.succ_ne_zero, elemsC, Int.reduceToNat, Nat.reducePow, e1, Bool.not_false, Bool.not_true]) | (simp (disch := (first | omega | (simp only [AL, List.length_map]; omega))) only [AR, AL, ifT, ifF, take_all, List.length_cons, List.length_nil, Int.reduceToNat, Int.reducePow, Nat.reducePow, e1, Bool.not_false, Bool.not_true]) | (refine wk_intro (by kernel_rfl) ?_) | (refine vp_draw (id := 7) (l := []) (by kernel_rfl) ?_) | (refine vf_of (by first | exact bg | exact cm | exact f1 | exact f2 | exact i0 | exact e0 | exact i1 | exact e1' | exact o0 | exact s0 | exact o1 | exact s1 | exact kn) ?_))
    | true =>
      obtain ⟨m, m1, m2, fs⟩ := sd rfl rfl
      refine Go.Ev.Fn.intro (fn := Tryz.f5) (body := (Tryz.f5).body.get!) (by kernel_rfl) (by kernel_rfl) (by kernel_rfl) (fun _ => rfl) (Nat.le_of_ble_eq_true (by kernel_rfl)) ?_; unfold Tryz.f5; simp only [Option.get!_some]
      repeat (first | (simp only [go_sem, Nat.reduceEqDiff, Nat.reduceAdd, Nat.reduceSub, Nat.reduceMul, Nat.reduceLeDiff, Nat.reduceLT, reduceIte, reduceCtorEq, Nat.succ_ne_zero, elemsC, Int.reduceToNat, Nat.reducePow, e1, Bool.not_false, Bool.not_true]) | (simp (disch := (first | omega | (simp only [AL, List.length_map]; omega))) only [AR, AL, ifT, ifF, take_all, List.length_cons, List.length_nil, Int.reduceToNat, Int.reducePow, Nat.reducePow, e1, Bool.not_false, Bool.not_true]) | (refine wk_intro (by kernel_rfl) ?_) | (refine vp_draw (id := 7) (l := []) (by kernel_rfl) ?_) | (refine vf_of (by first | exact bg | exact cm | exact f1 | exact f2 | exact i0 | exact e0 | exact i1 | exact e1' | exact o0 | exact s0 | exact o1 | exact s1 | exact fs | exact kn) ?_))
theorem rises_cmp (hv : RatA (ratV s n d) x 3) (hw : RatA (ratV s' n' d') y 3) (hn : n.length ≤ 3) (hd : d.length ≤ 3) (hn' : n'.length ≤ 3) (hd' : d'.length ≤ 3) (ha : 1 ≤ a ∧ a ≤ 20) (hb : 1 ≤ b ∧ b ≤ 20) (hp : 0 ≤ p ∧ p ≤ 60) (hxy : y < x) :
    Go.Ev.Fn CX 5 [.int .i64 a, .int .i64 b, ratV s n d, ratV s' n' d', .int .i64 p] (.bool true) := by
  have bg := law12_big2 (s := s) (s' := s') (n := n) (d := d) (n' := n') (d' := d') (by omega) (by omega) (by omega) (by omega)
  rw [show (decide (3 < n.length) || decide (3 < d.length) || (decide (3 < n'.length) || decide (3 < d'.length))) = false by rw [← Bool.decide_or, ← Bool.decide_or, ← Bool.decide_or]; exact decide_eq_false (by omega)] at bg
  have cm := ref2_Cmp hv hw (by omega) (by omega) (by omega)
  have e1 : decide (cmpR x y > 0) = true := by rw [cmpR_gt]; exact decide_eq_true hxy
  clear hv hw hxy
  generalize cmpR x y = z at *
  refine Go.Ev.Fn.intro (fn := Tryz.f5) (body := (Tryz.f5).body.get!) (by kernel_rfl) (by kernel_rfl) (by kernel_rfl) (fun _ => rfl) (Nat.le_of_ble_eq_true (by kernel_rfl)) ?_; unfold Tryz.f5; simp only [Option.get!_some]
  repeat (first | (simp only [go_sem, Nat.reduceEqDiff, Nat.reduceAdd, Nat.reduceSub, Nat.reduceMul, Nat.reduceLeDiff, Nat.reduceLT, reduceIte, reduceCtorEq, Nat.succ_ne_zero, elemsC, Int.reduceToNat, Nat.reducePow, e1]) | (simp (disch := (first | omega | (simp only [AL, List.length_map]; omega))) only [AR, AL, ifT, ifF, take_all, List.length_cons, List.length_nil, Int.reduceToNat, Int.reducePow, Nat.reducePow, e1]) | (refine wk_intro (by kernel_rfl) ?_) | (refine vp_draw (id := 7) (l := []) (by kernel_rfl) ?_) | (refine vf_of (by first | exact bg | exact cm) ?_))
end
/-- Whatever the number: what is told of it. -/
theorem incb_any {x : Rat} {a b p L : Nat} {v : SV} (hv : RatA v x L) (hL1 : 1 ≤ L) (hL : L ≤ 3) (ha : 1 ≤ a) (ha2 : a ≤ 20) (hb : 1 ≤ b) (hb2 : b ≤ 20) (hp : p ≤ 60) :
    ∃ l h : Rat, ∃ ok : Bool, Go.Ev.Fn CX 8 [.int .i64 (a : Int), .int .i64 (b : Int), v, .int .i64 (p : Int)] (.tup [ballR l h, .bool ok]) ∧ szR l 200 ∧ szR h 200 ∧ (ok = true → (x = 0 ∧ l = 0 ∧ h = 0) ∨ (x = 1 ∧ l = 1 ∧ h = 1) ∨ (0 < x ∧ x < 1 ∧ BallS a b p x l h)) := by
  have z0 : szR 0 200 := szR_zero (by omega)
  by_cases bad : x < 0 ∨ 1 < x
  · exact ⟨0, 0, false, incb_I_bad hv hL1 (by omega) (by omega) (by omega) (.inr (.inr bad)), z0, z0, fun h => by cases h⟩
  by_cases ends : x = 0 ∨ x = 1
  · have zx := szR_of hv hL1
    refine ⟨x, x, true, incb_I_ends hv hL1 hL (by omega) (by omega) ends, szR_mono zx (by omega), szR_mono zx (by omega), fun _ => ?_⟩
    rcases ends with e | e
    · exact .inl ⟨e, e, e⟩
    · exact .inr (.inl ⟨e, e, e⟩)
  · have n0 : 0 < x := by grind
    have n1 : x < 1 := by grind
    obtain ⟨l, h, f, z1, z2, g⟩ := incb_ball (a := a) (b := b) (p := p) hv hL1 (by omega) ha ha2 hb hb2 hp n0 n1
    exact ⟨l, h, true, f, z1, z2, fun _ => .inr (.inr ⟨n0, n1, g⟩)⟩
set_option maxRecDepth 100000 in
theorem rises_law (a : Int) (w0 : (Lit.int .i64 a).wf = true) (b : Int) (w1 : (Lit.int .i64 b).wf = true) (ss2 : List SV) (sh2 : ShpT Tryz.prog 6 24 ss2) (ss3 : List SV) (sh3 : ShpT Tryz.prog 6 24 ss3) (p : Int) (w4 : (Lit.int .i64 p).wf = true) :
    Go.Ev.Fn CX 5 [.int .i64 a, .int .i64 b, .agg ss2, .agg ss3, .int .i64 p] (.bool true) := by
  obtain ⟨s, n, d, rfl, hn, hd, ln, ld⟩ := shp_rat (n := 3) sh2
  obtain ⟨s', n', d', rfl, hn', hd', ln', ld'⟩ := shp_rat (n := 3) sh3
  have r0 := wf_int64k w0
  have r1 := wf_int64k w1
  have r4 := wf_int64k w4
  have mx : maxLen ≤ 9223372036854775807 := by decide
  have m1 := Nat.le_trans ln mx
  have m2 := Nat.le_trans ld mx
  have m3 := Nat.le_trans ln' mx
  have m4 := Nat.le_trans ld' mx
  by_cases c : n.length ≤ 3 ∧ d.length ≤ 3 ∧ n'.length ≤ 3 ∧ d'.length ≤ 3 ∧ 0 ≤ p ∧ p ≤ 60 ∧ 1 ≤ a ∧ 1 ≤ b ∧ a ≤ 20 ∧ b ≤ 20
  · obtain ⟨c1, c2, c3, c4, c5, c6, c7, c8, c9, c10⟩ := c
    obtain ⟨x, hx⟩ : ∃ x : Rat, RatA (ratV s n d) x 3 := ⟨_, s, n, d, rfl, hn, hd, c1, c2, rfl⟩
    obtain ⟨y, hy⟩ : ∃ y : Rat, RatA (ratV s' n' d') y 3 := ⟨_, s', n', d', rfl, hn', hd', c3, c4, rfl⟩
    by_cases hxy : y < x
    · exact rises_cmp hx hy c1 c2 c3 c4 ⟨c7, c9⟩ ⟨c8, c10⟩ ⟨c5, c6⟩ hxy
    have hxy' : x ≤ y := by grind
    obtain ⟨P, rfl⟩ : ∃ P : Nat, p = (P : Int) := ⟨p.toNat, by omega⟩
    obtain ⟨A, rfl⟩ : ∃ K : Nat, a = (K : Int) := ⟨a.toNat, by omega⟩
    obtain ⟨B, rfl⟩ : ∃ N : Nat, b = (N : Int) := ⟨b.toNat, by omega⟩
    have a1 : 1 ≤ A := by omega
    have b1 : 1 ≤ B := by omega
    have a2 : A ≤ 20 := by omega
    have b2 : B ≤ 20 := by omega
    have p2 : P ≤ 60 := by omega
    obtain ⟨l, h, ok, f1, z1, z2, g1⟩ := incb_any (a := A) (b := B) (p := P) hx (by omega) (by omega) a1 a2 b1 b2 p2
    obtain ⟨l', h', is, f2, z3, z4, g2⟩ := incb_any (a := A) (b := B) (p := P) hy (by omega) (by omega) a1 a2 b1 b2 p2
    refine rises_in hx hy c1 c2 c3 c4 ⟨c7, c9⟩ ⟨c8, c10⟩ ⟨c5, c6⟩ hxy' f1 f2 z1 z2 z3 z4 fun o1 o2 => ?_
    rcases g1 o1 with ⟨e, rfl, rfl⟩ | ⟨e, rfl, rfl⟩ | ⟨e1, e2, e3⟩ <;> rcases g2 o2 with ⟨e', rfl, rfl⟩ | ⟨e', rfl, rfl⟩ | ⟨e1', e2', e3'⟩
    · exact Rat.le_refl
    · decide
    · exact (ball_01 a1 a2 b1 b2 p2 e1' e2' e3').1
    · rw [e, e'] at hxy'; exact absurd hxy' (by decide)
    · exact Rat.le_refl
    · rw [e] at hxy'; exact absurd hxy' (by grind)
    · rw [e'] at hxy'; exact absurd hxy' (by grind)
    · exact (ball_01 a1 a2 b1 b2 p2 e1 e2 e3).2
    · exact ball_mono a1 a2 b1 b2 p2 e1 hxy' e2' e3 e3'
  · exact rises_out m1 m2 m3 m4 r0 r1 r4 (by omega)
end Go.Proofs.YtigiblhmhmgagaaGreat
