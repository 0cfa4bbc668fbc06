/- Part 7 of the proof: the evaluator, contracts of functions and their plain laws (joined by program). No condition. -/
import Derived.Test.YtecjelnpmcnbaaaGreatPart6
set_option linter.unusedVariables false
set_option linter.unusedSimpArgs false
set_option maxRecDepth 100000
namespace Go.Proofs.YtecjelnpmcnbaaaGreat
open Go.Ev
def In1 (x : Rat) : Prop := 0 ≤ x ∧ x ≤ 1
def Bd (F : Rat → Rat → Rat) : Prop := ∃ C : Rat, 0 ≤ C ∧ ∀ x y, In1 x → In1 y → -C ≤ F x y ∧ F x y ≤ C
theorem mul_held {a b C D : Rat} (h1 : -C ≤ a) (h2 : a ≤ C) (h3 : -D ≤ b) (h4 : b ≤ D) : -(C * D) ≤ a * b ∧ a * b ≤ C * D := by
  have m1 := Rat.mul_nonneg (show 0 ≤ C - a by grind) (show 0 ≤ D - b by grind)
  have m2 := Rat.mul_nonneg (show 0 ≤ C + a by grind) (show 0 ≤ D + b by grind)
  have m3 := Rat.mul_nonneg (show 0 ≤ C - a by grind) (show 0 ≤ D + b by grind)
  have m4 := Rat.mul_nonneg (show 0 ≤ C + a by grind) (show 0 ≤ D - b by grind)
  constructor <;> grind
theorem bd_const (c : Rat) : Bd (fun _ _ => c) := by
  refine ⟨if 0 ≤ c then c else -c, by split <;> grind, fun x y _ _ => ?_⟩
  split <;> constructor <;> grind
theorem bd_add {F G : Rat → Rat → Rat} (h : Bd F) (g : Bd G) : Bd (fun x y => F x y + G x y) := by
  obtain ⟨C, c0, c1⟩ := h
  obtain ⟨D, d0, d1⟩ := g
  refine ⟨C + D, by grind, fun x y hx hy => ?_⟩
  have := c1 x y hx hy
  have := d1 x y hx hy
  constructor <;> grind
theorem bd_mul {F G : Rat → Rat → Rat} (h : Bd F) (g : Bd G) : Bd (fun x y => F x y * G x y) := by
  obtain ⟨C, c0, c1⟩ := h
  obtain ⟨D, d0, d1⟩ := g
  refine ⟨C * D, Rat.mul_nonneg c0 d0, fun x y hx hy => ?_⟩
  have a := c1 x y hx hy
  have b := d1 x y hx hy
  exact mul_held a.1 a.2 b.1 b.2
theorem bd_dist : Bd (fun x y => y - x) := ⟨1, by decide, fun x y hx hy => by unfold In1 at hx hy; constructor <;> grind⟩
def Dif (f g : Rat → Rat) : Prop := ∃ R : Rat → Rat → Rat, Bd (fun x _ => f x) ∧ Bd (fun x _ => g x) ∧ Bd R ∧ ∀ x y, f y = f x + g x * (y - x) + R x y * ((y - x) * (y - x))
theorem dif_const (c : Rat) : Dif (fun _ => c) (fun _ => 0) := ⟨fun _ _ => 0, bd_const c, bd_const 0, bd_const 0, fun x y => by grind⟩
theorem dif_id : Dif (fun x => x) (fun _ => 1) := ⟨fun _ _ => 0, ⟨1, by decide, fun x y hx hy => by unfold In1 at hx; constructor <;> grind⟩, bd_const 1, bd_const 0, fun x y => by grind⟩
theorem dif_add {f g f' g' : Rat → Rat} (h : Dif f g) (h' : Dif f' g') : Dif (fun x => f x + f' x) (fun x => g x + g' x) := by
  obtain ⟨R, a1, a2, a3, a4⟩ := h
  obtain ⟨S, b1, b2, b3, b4⟩ := h'
  refine ⟨fun x y => R x y + S x y, bd_add a1 b1, bd_add a2 b2, bd_add a3 b3, fun x y => ?_⟩
  show f y + f' y = _
  rw [a4 x y, b4 x y]; grind
theorem dif_mul {f g f' g' : Rat → Rat} (h : Dif f g) (h' : Dif f' g') : Dif (fun x => f x * f' x) (fun x => f x * g' x + g x * f' x) := by
  obtain ⟨R, a1, a2, a3, a4⟩ := h
  obtain ⟨S, b1, b2, b3, b4⟩ := h'
  refine ⟨fun x y => (f x * S x y + R x y * f' x) + (g x * g' x + ((y - x) * (g x * S x y + R x y * g' x) + (y - x) * ((y - x) * (R x y * S x y)))), bd_mul a1 b1, bd_add (bd_mul a1 b2) (bd_mul a2 b1), ?_, fun x y => ?_⟩
  · exact bd_add (bd_add (bd_mul a1 b3) (bd_mul a3 b1)) (bd_add (bd_mul a2 b2) (bd_add (bd_mul bd_dist (bd_add (bd_mul a2 b3) (bd_mul a3 b2))) (bd_mul bd_dist (bd_mul bd_dist (bd_mul a3 b3)))))
  · show f y * f' y = _
    rw [a4 x y, b4 x y]
    show _ = f x * f' x + (f x * g' x + g x * f' x) * (y - x) + ((f x * S x y + R x y * f' x) + (g x * g' x + ((y - x) * (g x * S x y + R x y * g' x) + (y - x) * ((y - x) * (R x y * S x y))))) * ((y - x) * (y - x))
    generalize y - x = d
    generalize f x = t1
    generalize f' x = t2
    generalize g x = t3
    generalize g' x = t4
    generalize R x y = t5
    generalize S x y = t6
    grind
theorem dif_congr {f g f' g' : Rat → Rat} (h : Dif f g) (e : ∀ x, f x = f' x) (e' : ∀ x, g x = g' x) : Dif f' g' := by
  have h1 : f = f' := funext e
  have h2 : g = g' := funext e'
  rw [← h1, ← h2]; exact h
theorem mul_denR (D : Rat) : D * (D.den : Rat) = (D.num : Rat) := by
  have dn : (0 : Rat) < (D.den : Rat) := by exact_mod_cast Rat.den_pos (self := D)
  have := (Rat.mkRat_eq_div D.num D.den).symm.trans (Rat.mkRat_self D)
  have e := Rat.div_mul_cancel (a := (D.num : Rat)) (b := (D.den : Rat)) (by grind)
  rwa [this] at e
theorem arch {D e : Rat} (hD : 0 ≤ D) (he : 0 < e) : ∃ n : Nat, 1 ≤ n ∧ D ≤ e * (n : Rat) := by
  refine ⟨(D.num.natAbs * e.den + 1), by omega, ?_⟩
  have dn : (0 : Rat) < (D.den : Rat) := by exact_mod_cast Rat.den_pos (self := D)
  have en : (0 : Rat) < (e.den : Rat) := by exact_mod_cast Rat.den_pos (self := e)
  have e1 := mul_denR D
  have e2 := mul_denR e
  have n1 : 1 ≤ e.num := by
    have q : 0 ≤ e.num := Rat.num_nonneg.2 (by grind)
    have q2 : e.num ≠ 0 := fun z => by rw [Rat.num_eq_zero.1 z] at he; exact absurd he (by decide)
    omega
  have n0 : 0 ≤ D.num := Rat.num_nonneg.2 hD
  have c1 : ((D.num.natAbs : Nat) : Rat) = (D.num : Rat) := by
    have : ((D.num.natAbs : Nat) : Int) = D.num := by omega
    calc ((D.num.natAbs : Nat) : Rat) = (((D.num.natAbs : Nat) : Int) : Rat) := by rfl
      _ = _ := by rw [this]
  have n1' : (1 : Rat) ≤ (e.num : Rat) := by exact_mod_cast n1
  have n0' : (0 : Rat) ≤ (D.num : Rat) := by exact_mod_cast n0
  have dn1 : (1 : Rat) ≤ (D.den : Rat) := by exact_mod_cast (show 1 ≤ D.den from Rat.den_pos (self := D))
  have c2 : ((D.num.natAbs * e.den + 1 : Nat) : Rat) = (D.num : Rat) * (e.den : Rat) + 1 := by
    rw [← c1]; exact_mod_cast rfl
  rw [c2]
  have k1 : D ≤ (D.num : Rat) := by
    have := Rat.mul_le_mul_of_nonneg_left dn1 hD
    rw [e1] at this; grind
  have k2 : e * ((D.num : Rat) * (e.den : Rat) + 1) = (D.num : Rat) * (e * (e.den : Rat)) + e := by grind
  rw [k2, e2]
  have := Rat.mul_le_mul_of_nonneg_left n1' n0'
  grind
theorem lim_le {A B D : Rat} (hD : 0 ≤ D) (h : ∀ n : Nat, 1 ≤ n → (A - B) * (n : Rat) ≤ D) : A ≤ B := by
  rcases Rat.le_total (a := A) (b := B) with g | g
  · exact g
  · by_cases e : A = B
    · rw [e]; exact Rat.le_refl
    · have hp : 0 < A - B := by grind
      obtain ⟨n, n1, n2⟩ := arch (D := D + 1) (by grind) hp
      have := h n n1
      grind
theorem dif_mono {f g : Rat → Rat} (h : Dif f g) {x y : Rat} (hx : 0 ≤ x) (hxy : x ≤ y) (hy : y ≤ 1) (hg : ∀ z, x ≤ z → z ≤ y → 0 ≤ g z) : f x ≤ f y := by
  obtain ⟨R, a1, a2, ⟨C, c0, c1⟩, a4⟩ := h
  refine lim_le (D := C * ((y - x) * (y - x))) (Rat.mul_nonneg c0 (Rat.mul_nonneg (by grind) (by grind))) fun n hn => ?_
  have N : (1 : Rat) ≤ (n : Rat) := by exact_mod_cast hn
  obtain ⟨d, hd⟩ : ∃ d, d = (y - x) / (n : Rat) := ⟨_, rfl⟩
  have hdn : d * (n : Rat) = y - x := by rw [hd]; exact Rat.div_mul_cancel (by grind)
  have d0 : 0 ≤ d := le_by (c := (n : Rat)) (by grind) (by rw [hdn]; grind)
  have step : ∀ k : Nat, k ≤ n → x + d * (k : Rat) ≤ y ∧ f x ≤ f (x + d * (k : Rat)) + C * (d * d) * (k : Rat) := by
    intro k
    induction k with
    | zero => intro _; rw [show ((0 : Nat) : Rat) = 0 from rfl, Rat.mul_zero, Rat.add_zero, Rat.mul_zero, Rat.add_zero]; exact ⟨hxy, Rat.le_refl⟩
    | succ k ih =>
      intro hk
      obtain ⟨i1, i2⟩ := ih (by omega)
      have ck : ((k + 1 : Nat) : Rat) = (k : Rat) + 1 := by exact_mod_cast rfl
      have kn : ((k + 1 : Nat) : Rat) ≤ (n : Rat) := by exact_mod_cast hk
      have k0 : (0 : Rat) ≤ (k : Rat) := by exact_mod_cast Nat.zero_le k
      have m := Rat.mul_le_mul_of_nonneg_left kn d0
      rw [hdn, ck] at m
      rw [ck]
      have z0 : 0 ≤ d * (k : Rat) := Rat.mul_nonneg d0 k0
      have e := a4 (x + d * (k : Rat)) (x + d * ((k : Rat) + 1))
      have b := c1 (x + d * (k : Rat)) (x + d * ((k : Rat) + 1)) ⟨by grind, by grind⟩ ⟨by grind, by grind⟩
      have s := hg (x + d * (k : Rat)) (by grind) i1
      have ed : x + d * ((k : Rat) + 1) - (x + d * (k : Rat)) = d := by grind
      rw [ed] at e
      have s1 := Rat.mul_nonneg s d0
      have s2 := Rat.mul_nonneg (show 0 ≤ R (x + d * (k : Rat)) (x + d * ((k : Rat) + 1)) + C by grind) (Rat.mul_nonneg d0 d0)
      refine ⟨by grind, ?_⟩
      rw [e]
      grind
  have r := (step n (Nat.le_refl _)).2
  have e : x + d * (n : Rat) = y := by grind
  rw [e] at r
  have m := Rat.mul_le_mul_of_nonneg_right (show f x - f y ≤ C * (d * d) * (n : Rat) by grind) (show 0 ≤ (n : Rat) by grind)
  have e2 : C * (d * d) * (n : Rat) * (n : Rat) = C * ((d * (n : Rat)) * (d * (n : Rat))) := by grind
  rw [e2, hdn] at m
  exact m
section
variable {a b : Nat}
theorem dif_pw {f g : Rat → Rat} (h : Dif f g) (n : Nat) : ∃ s : Rat → Rat, Dif (fun x => pwR (f x) n) s ∧ ∀ x, f x * s x = (n : Rat) * (pwR (f x) n * g x) := by
  induction n with
  | zero => exact ⟨fun _ => 0, dif_const 1, fun x => by rw [Rat.mul_zero, show ((0 : Nat) : Rat) = 0 from rfl, Rat.zero_mul]⟩
  | succ n ih =>
    obtain ⟨s, h1, h2⟩ := ih
    refine ⟨_, dif_mul h1 h, fun x => ?_⟩
    have := h2 x
    have ck : ((n + 1 : Nat) : Rat) = (n : Rat) + 1 := by exact_mod_cast rfl
    show f x * (pwR (f x) n * g x + s x * f x) = _ * (pwR (f x) n * f x * g x)
    rw [ck]
    generalize pwR (f x) n = q at *
    generalize f x = u at *
    generalize s x = v at *
    generalize g x = w at *
    have e : u * (q * w + v * u) = u * v * u + u * q * w := by grind
    rw [e, this]; grind
theorem dif_rR (k : Nat) : ∃ s : Rat → Rat, Dif (fun x => rR x a b k) s ∧ ∀ x, x * s x = (k : Rat) * rR x a b k := by
  induction k with
  | zero => exact ⟨fun _ => 0, dif_const 1, fun x => by rw [Rat.mul_zero, show ((0 : Nat) : Rat) = 0 from rfl, Rat.zero_mul]⟩
  | succ k ih =>
    obtain ⟨s, h1, h2⟩ := ih
    obtain ⟨c, hc⟩ : ∃ c : Rat, c = ((a + b + 2 * k : Nat) : Rat) * ((a + 2 + 2 * k : Nat) : Rat)⁻¹ := ⟨_, rfl⟩
    have e : ∀ x, rR x a b (k + 1) = rR x a b k * x * c := fun x => by
      show rR x a b k * x * ((a + b + 2 * k : Nat) : Rat) / ((a + 2 + 2 * k : Nat) : Rat) = _
      rw [Rat.div_def, hc]; grind
    refine ⟨_, dif_congr (dif_mul (dif_mul h1 dif_id) (dif_const c)) (fun x => (e x).symm) (fun x => rfl), fun x => ?_⟩
    have := h2 x
    have ck : ((k + 1 : Nat) : Rat) = (k : Rat) + 1 := by exact_mod_cast rfl
    rw [e, ck]
    show x * (rR x a b k * x * 0 + (rR x a b k * 1 + s x * x) * c) = _
    generalize rR x a b k = r at *
    have e2 : x * (r * x * 0 + (r * 1 + s x * x) * c) = x * s x * x * c + x * r * c := by grind
    rw [e2, this]; grind
theorem dif_sR (k : Nat) : ∃ s : Rat → Rat, Dif (fun x => sR x a b k) s ∧ ∀ x, (a : Rat) * (1 - x) * sR x a b k - (b : Rat) * x * sR x a b k + 2 * (1 - x) * (x * s x) = (a : Rat) - ((a + b + 2 * k : Nat) : Rat) * x * rR x a b k := by
  induction k with
  | zero =>
    refine ⟨fun _ => 0, dif_const 1, fun x => ?_⟩
    have c1 : ((a + b + 2 * 0 : Nat) : Rat) = (a : Rat) + (b : Rat) := by exact_mod_cast rfl
    show (a : Rat) * (1 - x) * 1 - (b : Rat) * x * 1 + 2 * (1 - x) * (x * 0) = (a : Rat) - _ * x * 1
    rw [c1]; grind
  | succ k ih =>
    obtain ⟨s, h1, h2⟩ := ih
    obtain ⟨t, g1, g2⟩ := dif_rR (a := a) (b := b) (k + 1)
    refine ⟨_, dif_add h1 g1, fun x => ?_⟩
    have i := h2 x
    have j := g2 x
    have st := rR_step (x := x) (a := a) (b := b) k
    have ck : ((k + 1 : Nat) : Rat) = (k : Rat) + 1 := by exact_mod_cast rfl
    have c1 : ((a + b + 2 * k : Nat) : Rat) = (a : Rat) + (b : Rat) + 2 * (k : Rat) := by exact_mod_cast rfl
    have c2 : ((a + 2 + 2 * k : Nat) : Rat) = (a : Rat) + 2 + 2 * (k : Rat) := by exact_mod_cast rfl
    have c3 : ((a + b + 2 * (k + 1) : Nat) : Rat) = (a : Rat) + (b : Rat) + 2 * ((k : Rat) + 1) := by exact_mod_cast rfl
    rw [c1] at i
    rw [c1, c2] at st
    rw [c3]
    rw [ck] at j
    show (a : Rat) * (1 - x) * (sR x a b k + rR x a b (k + 1)) - (b : Rat) * x * (sR x a b k + rR x a b (k + 1)) + 2 * (1 - x) * (x * (s x + t x)) = _
    generalize rR x a b (k + 1) = r' at *
    generalize rR x a b k = r at *
    generalize sR x a b k = z at *
    generalize (a : Rat) = A at *
    generalize (b : Rat) = B at *
    generalize (k : Rat) = K at *
    generalize s x = u at *
    generalize t x = v at *
    have e : A * (1 - x) * (z + r') - B * x * (z + r') + 2 * (1 - x) * (x * (u + v)) = (A * (1 - x) * z - B * x * z + 2 * (1 - x) * (x * u)) + (A * (1 - x) * r' - B * x * r' + 2 * (1 - x) * (x * v)) := by grind
    rw [e, i, j]
    grind
def shG (a b k : Nat) (x : Rat) : Rat := pwR x a * pwR (1 - x) b * (sR x a b k * sR x a b k)
theorem dif_one_sub : Dif (fun x => 1 - x) (fun _ => -1) := ⟨fun _ _ => 0, ⟨1, by decide, fun x y hx hy => by unfold In1 at hx; constructor <;> grind⟩, bd_const (-1), bd_const 0, fun x y => by grind⟩
theorem slope_id {A B x S s q r pa pb : Rat} (h1 : x * q = A * (pa * 1)) (h2 : (1 - x) * r = B * (pb * (-1))) :
    (pa * pb * (S * s + s * S) + (pa * r + q * pb) * (S * S)) * (x * (1 - x)) = pa * pb * S * (A * (1 - x) * S - B * x * S + 2 * (1 - x) * (x * s)) := by
  have e : (pa * pb * (S * s + s * S) + (pa * r + q * pb) * (S * S)) * (x * (1 - x)) = pa * pb * S * (2 * (1 - x) * (x * s)) + pa * x * ((1 - x) * r) * (S * S) + x * q * (1 - x) * pb * (S * S) := by grind
  rw [e, h1, h2]; grind
theorem shG_mono {k : Nat} {x y : Rat} (h0 : 0 < x) (hxy : x ≤ y) (hy : y + y ≤ 1) (hk : ∀ z, x ≤ z → z ≤ y → ((a + b + 2 * k : Nat) : Rat) * z * rR z a b k ≤ (a : Rat)) : shG a b k x ≤ shG a b k y := by
  obtain ⟨q, d1, e1⟩ := dif_pw dif_id a
  obtain ⟨r, d2, e2⟩ := dif_pw dif_one_sub b
  obtain ⟨s, d3, e3⟩ := dif_sR (a := a) (b := b) k
  refine dif_mono (dif_mul (dif_mul d1 d2) (dif_mul d3 d3)) (by grind) hxy (by grind) fun z z1 z2 => ?_
  have P : 0 < z * (1 - z) := Rat.mul_pos (by grind) (by grind)
  refine le_by P ?_
  rw [Rat.zero_mul, slope_id (e1 z) (e2 z), e3 z]
  have n1 := pwR_nn (q := z) (by grind) a
  have n2 := pwR_nn (q := 1 - z) (by grind) b
  have n3 : 0 ≤ sR z a b k := Rat.le_trans (show (0 : Rat) ≤ 1 by decide) (sR_up (a := a) (b := b) (show 0 ≤ z by grind) (Nat.zero_le k))
  have := hk z z1 z2
  exact Rat.mul_nonneg (Rat.mul_nonneg (Rat.mul_nonneg n1 n2) n3) (by grind)
theorem late_fall {x : Rat} (h : 0 ≤ x) (h1 : x + x ≤ 1) {k c d : Nat} (hk : d * (a + b + 2 * k + 2) ≤ 2 * c * (a + 2 + 2 * k)) : (d : Rat) * (((a + b + 2 * (k + 1) : Nat) : Rat) * rR x a b (k + 1)) ≤ (c : Rat) * (((a + b + 2 * k : Nat) : Rat) * rR x a b k) := by
  have M : (0 : Rat) < ((a + 2 + 2 * k : Nat) : Rat) := by exact_mod_cast (show 0 < a + 2 + 2 * k by omega)
  have st := rR_step (x := x) (a := a) (b := b) k
  have r0 := rR_nn (a := a) (b := b) h k
  have hn : ((d * (a + b + 2 * k + 2) : Nat) : Rat) ≤ ((2 * c * (a + 2 + 2 * k) : Nat) : Rat) := by exact_mod_cast hk
  have c1 : ((d * (a + b + 2 * k + 2) : Nat) : Rat) = (d : Rat) * ((a + b + 2 * (k + 1) : Nat) : Rat) := by exact_mod_cast rfl
  have c2 : ((2 * c * (a + 2 + 2 * k) : Nat) : Rat) = 2 * (c : Rat) * ((a + 2 + 2 * k : Nat) : Rat) := by exact_mod_cast rfl
  rw [c1, c2] at hn
  have n0 := nat_nonneg (a + b + 2 * k)
  have n1 := nat_nonneg (a + b + 2 * (k + 1))
  have n2 := nat_nonneg d
  generalize ((a + 2 + 2 * k : Nat) : Rat) = m at *
  generalize ((a + b + 2 * (k + 1) : Nat) : Rat) = n' at *
  generalize ((a + b + 2 * k : Nat) : Rat) = n at *
  generalize rR x a b (k + 1) = r' at *
  generalize rR x a b k = r at *
  generalize (d : Rat) = D at *
  generalize (c : Rat) = C at *
  refine le_by M ?_
  have e1 : D * (n' * r') * m = D * n' * (r' * m) := by grind
  rw [e1, st]
  have rn := Rat.mul_nonneg r0 n0
  have k1 : D * n' * (r * n) * (x + x) ≤ D * n' * (r * n) * 1 := Rat.mul_le_mul_of_nonneg_left h1 (Rat.mul_nonneg (Rat.mul_nonneg n2 n1) rn)
  have k2 := Rat.mul_le_mul_of_nonneg_right hn rn
  grind
theorem late_small {x : Rat} (h : 0 ≤ x) (h1 : x + x ≤ 1) (ha : 1 ≤ a) (ha2 : a ≤ 20) (hb2 : b ≤ 20) {k : Nat} (hk : 160 ≤ k) : ((a + b + 2 * k : Nat) : Rat) * rR x a b k ≤ 1 := by
  have A : ∀ j : Nat, ((a + b + 2 * j : Nat) : Rat) * rR x a b j ≤ 40 * pwR 4 j := by
    intro j
    induction j with
    | zero =>
      show ((a + b + 2 * 0 : Nat) : Rat) * 1 ≤ 40 * 1
      have : ((a + b + 2 * 0 : Nat) : Rat) ≤ ((40 : Nat) : Rat) := by exact_mod_cast (show a + b + 2 * 0 ≤ 40 by omega)
      rw [show ((40 : Nat) : Rat) = 40 from rfl] at this
      grind
    | succ j ih =>
      have := late_fall (a := a) (b := b) h h1 (k := j) (c := 4) (d := 1) (by omega)
      rw [show ((1 : Nat) : Rat) = 1 from rfl, show ((4 : Nat) : Rat) = 4 from rfl] at this
      show _ ≤ 40 * (pwR 4 j * 4)
      grind
  have B : ∀ j : Nat, ((a + b + 2 * (20 + j) : Nat) : Rat) * rR x a b (20 + j) * pwR 4 j ≤ 40 * pwR 4 20 * pwR 3 j := by
    intro j
    induction j with
    | zero => show _ * 1 ≤ _ * 1; have := A 20; rw [Nat.add_zero]; grind
    | succ j ih =>
      have t := late_fall (a := a) (b := b) h h1 (k := 20 + j) (c := 3) (d := 4) (by omega)
      rw [show ((3 : Nat) : Rat) = 3 from rfl, show ((4 : Nat) : Rat) = 4 from rfl] at t
      have p4 := pwR_nn (q := 4) (by decide) j
      have m := Rat.mul_le_mul_of_nonneg_right t p4
      show _ * (pwR 4 j * 4) ≤ _ * (pwR 3 j * 3)
      rw [show 20 + (j + 1) = 20 + j + 1 by omega]
      generalize ((a + b + 2 * (20 + j + 1) : Nat) : Rat) * rR x a b (20 + j + 1) = u at *
      generalize ((a + b + 2 * (20 + j) : Nat) : Rat) * rR x a b (20 + j) = v at *
      generalize 40 * pwR 4 20 = z at *
      generalize pwR 4 j = w at *
      generalize pwR 3 j = w' at *
      grind
  have C : ∀ j : Nat, 40 * pwR 4 20 * pwR 3 (140 + j) ≤ pwR 4 (140 + j) := by
    intro j
    induction j with
    | zero => decide +kernel
    | succ j ih =>
      show 40 * pwR 4 20 * (pwR 3 (140 + j) * 3) ≤ pwR 4 (140 + j) * 4
      have := pwR_nn (q := 4) (by decide) (140 + j)
      generalize 40 * pwR 4 20 = z at *
      generalize pwR 4 (140 + j) = w at *
      generalize pwR 3 (140 + j) = w' at *
      grind
  obtain ⟨j, rfl⟩ : ∃ j, k = 20 + (140 + j) := ⟨k - 160, by omega⟩
  have t := Rat.le_trans (B (140 + j)) (C j)
  have pp : ∀ n, 0 < pwR 4 n := by
    intro n
    induction n with
    | zero => show (0 : Rat) < 1; decide
    | succ n ih => show 0 < pwR 4 n * 4; grind
  refine le_by (pp (140 + j)) ?_
  rw [Rat.one_mul]; exact t
theorem shG_up {k : Nat} {x y : Rat} (ha : 1 ≤ a) (ha2 : a ≤ 20) (hb2 : b ≤ 20) (hk : 160 ≤ k) (h0 : 0 < x) (hxy : x ≤ y) (hy : y + y ≤ 1) : shG a b k x ≤ shG a b k y := by
  refine shG_mono h0 hxy hy fun z z1 z2 => ?_
  have t := late_small (x := z) (a := a) (b := b) (by grind) (by grind) ha ha2 hb2 hk
  have r0 := Rat.mul_nonneg (nat_nonneg (a + b + 2 * k)) (rR_nn (x := z) (a := a) (b := b) (by grind) k)
  have m := Rat.mul_le_mul_of_nonneg_left (show z ≤ 1 by grind) r0
  have n1 : (1 : Rat) ≤ (a : Rat) := by exact_mod_cast ha
  grind
end
end Go.Proofs.YtecjelnpmcnbaaaGreat
namespace Go.Proofs.YtecjelnpmcnbaaaGreat
open Go.Ev
theorem nat_shl {N m : Nat} (h : (lim N).length ≤ 1073741824) (hm : m ≤ 4096) : Go.Ev.Fn CX 67 [natV (lim N), .int .i64 (m : Int)] (natV (lim (N * 2 ^ m))) := by
  have := shift_up (lim N) m (okL_lim _) h _ rfl hm
  rwa [wth_lim] at this
theorem nat_shr {N m : Nat} (h : (lim N).length ≤ 1073741824) (hm : m ≤ 4096) (h0 : 0 < m) : Go.Ev.Fn CX 67 [natV (lim N), .int .i64 (-(m : Int))] (natV (lim (N / 2 ^ m))) := by
  have := shift_down (lim N) m (okL_lim _) h _ rfl hm h0
  rwa [wth_lim] at this
theorem fix_shl {a m : Nat} (ha : (lim a).length ≤ 100000000) (hm : m ≤ 1000000000) : Go.Ev.Fn CX 213 [natV (lim a), .int .i64 (m : Int)] (natV (lim (a * 2 ^ m))) := by
  have hl := fun j => lim_len_shl (a := a) (n := j)
  refine Go.Ev.Fn.intro (fn := Tryz.f213) (body := (Tryz.f213).body.get!) (by kernel_rfl) (by kernel_rfl) (by kernel_rfl) (fun _ => rfl) (Nat.le_of_ble_eq_true (by kernel_rfl)) ?_; unfold Tryz.f213; simp only [Option.get!_some]
  repeat (first | (simp only [go_sem, Nat.reduceEqDiff, Nat.reduceAdd, Nat.reduceSub, Nat.reduceMul, Nat.reduceLeDiff, Nat.reduceLT, reduceIte, reduceCtorEq, Nat.succ_ne_zero, elemsC, Int.reduceToNat, Nat.reducePow]) | (simp (disch := (first | omega | (simp only [AL, List.length_map]; omega))) only [AR, AL, ifT, ifF, take_all, List.length_cons, List.length_nil, Int.reduceToNat, Int.reducePow, Nat.reducePow]) | (refine wk_intro (by kernel_rfl) ?_))
  refine vp_loop_inv (fun s => ∃ j : Nat, j ≤ m ∧ s.tmp 0 = .sv (natV (lim (a * 2 ^ j))) ∧ s.tmp 1 = .sv (.int .i64 ((m - j : Nat) : Int)))
    (fun s => match s.tmp 1 with | .sv (.int _ i) => i.toNat | _ => 0) ⟨0, by omega, by rw [Nat.pow_zero, Nat.mul_one]; rfl, rfl⟩ ?_
  rintro s ⟨j, hj, i0, i1⟩
  have hlj := hl j
  by_cases hc : 1024 < m - j
  · obtain ⟨K, hK⟩ : ∃ K : Nat, K = 1024 := ⟨_, rfl⟩
    have st := nat_shl (N := a * 2 ^ j) (m := K) (by omega) (by omega)
    rw [Nat.mul_assoc, ← Nat.pow_add] at st
    generalize hx : a * 2 ^ j = x at *
    generalize hy : a * 2 ^ (j + K) = y at *
    rw [show (K : Int) = 1024 by omega] at st
    repeat (first | (simp only [go_sem, Nat.reduceEqDiff, Nat.reduceAdd, Nat.reduceSub, Nat.reduceMul, Nat.reduceLeDiff, Nat.reduceLT, reduceIte, reduceCtorEq, Nat.succ_ne_zero, elemsC, Int.reduceToNat, Nat.reducePow, i0, i1]) | (simp (disch := (first | omega | (simp only [AL, List.length_map]; omega))) only [AR, AL, ifT, ifF, take_all, List.length_cons, List.length_nil, Int.reduceToNat, Int.reducePow, Nat.reducePow, i0, i1]) | (refine wk_intro (by kernel_rfl) ?_) | (refine vf_of (by first | exact st) ?_))
    exact ⟨⟨j + K, by omega, by rw [hy], by rw [show ((m - (j + K) : Nat) : Int) = ((m - j : Nat) : Int) - 1024 by omega]⟩, by omega⟩
  · have st := nat_shl (N := a * 2 ^ j) (m := m - j) (by omega) (by omega)
    rw [Nat.mul_assoc, ← Nat.pow_add, show j + (m - j) = m by omega] at st
    generalize a * 2 ^ j = x at *
    generalize a * 2 ^ m = y at *
    repeat (first | (simp only [go_sem, Nat.reduceEqDiff, Nat.reduceAdd, Nat.reduceSub, Nat.reduceMul, Nat.reduceLeDiff, Nat.reduceLT, reduceIte, reduceCtorEq, Nat.succ_ne_zero, elemsC, Int.reduceToNat, Nat.reducePow, i0, i1]) | (simp (disch := (first | omega | (simp only [AL, List.length_map]; omega))) only [AR, AL, ifT, ifF, take_all, List.length_cons, List.length_nil, Int.reduceToNat, Int.reducePow, Nat.reducePow, i0, i1]) | (refine wk_intro (by kernel_rfl) ?_))
    refine vp_loop_inv (fun s => s.tmp 0 = .sv (natV (lim x)) ∧ s.tmp 1 = .sv (.int .i64 ((m - j : Nat) : Int))) (fun _ => 0) ⟨i0, i1⟩ ?_
    rintro s' ⟨j0, j1⟩
    repeat (first | (simp only [go_sem, Nat.reduceEqDiff, Nat.reduceAdd, Nat.reduceSub, Nat.reduceMul, Nat.reduceLeDiff, Nat.reduceLT, reduceIte, reduceCtorEq, Nat.succ_ne_zero, elemsC, Int.reduceToNat, Nat.reducePow, j0, j1]) | (simp (disch := (first | omega | (simp only [AL, List.length_map]; omega))) only [AR, AL, ifT, ifF, take_all, List.length_cons, List.length_nil, Int.reduceToNat, Int.reducePow, Nat.reducePow, j0, j1]) | (refine wk_intro (by kernel_rfl) ?_) | (refine vf_of (by first | exact st) ?_))
theorem fix_shr {a m : Nat} (ha : (lim a).length ≤ 300000000) (hm : m ≤ 1000000000) (h0 : 0 < m) : Go.Ev.Fn CX 213 [natV (lim a), .int .i64 (-(m : Int))] (natV (lim (a / 2 ^ m))) := by
  have hl := fun j => lim_len_mono (Nat.div_le_self a (2 ^ j))
  refine Go.Ev.Fn.intro (fn := Tryz.f213) (body := (Tryz.f213).body.get!) (by kernel_rfl) (by kernel_rfl) (by kernel_rfl) (fun _ => rfl) (Nat.le_of_ble_eq_true (by kernel_rfl)) ?_; unfold Tryz.f213; simp only [Option.get!_some]
  repeat (first | (simp only [go_sem, Nat.reduceEqDiff, Nat.reduceAdd, Nat.reduceSub, Nat.reduceMul, Nat.reduceLeDiff, Nat.reduceLT, reduceIte, reduceCtorEq, Nat.succ_ne_zero, elemsC, Int.reduceToNat, Nat.reducePow]) | (simp (disch := (first | omega | (simp only [AL, List.length_map]; omega))) only [AR, AL, ifT, ifF, take_all, List.length_cons, List.length_nil, Int.reduceToNat, Int.reducePow, Nat.reducePow]) | (refine wk_intro (by kernel_rfl) ?_))
  refine vp_loop_inv (fun s => s.tmp 0 = .sv (natV (lim a)) ∧ s.tmp 1 = .sv (.int .i64 (-(m : Int)))) (fun _ => 0) ⟨rfl, rfl⟩ ?_
  rintro s ⟨i0, i1⟩
  repeat (first | (simp only [go_sem, Nat.reduceEqDiff, Nat.reduceAdd, Nat.reduceSub, Nat.reduceMul, Nat.reduceLeDiff, Nat.reduceLT, reduceIte, reduceCtorEq, Nat.succ_ne_zero, elemsC, Int.reduceToNat, Nat.reducePow, i0, i1]) | (simp (disch := (first | omega | (simp only [AL, List.length_map]; omega))) only [AR, AL, ifT, ifF, take_all, List.length_cons, List.length_nil, Int.reduceToNat, Int.reducePow, Nat.reducePow, i0, i1]) | (refine wk_intro (by kernel_rfl) ?_))
  refine vp_loop_inv (fun s => ∃ j : Nat, j < m ∧ s.tmp 0 = .sv (natV (lim (a / 2 ^ j))) ∧ s.tmp 1 = .sv (.int .i64 (-((m - j : Nat) : Int))))
    (fun s => match s.tmp 1 with | .sv (.int _ i) => (-i).toNat | _ => 0) ⟨0, by omega, by rw [Nat.pow_zero, Nat.div_one]; exact i0, i1⟩ ?_
  rintro s2 ⟨j, hj, j0, j1⟩
  have hlj := hl j
  by_cases hc : 1024 < m - j
  · obtain ⟨K, hK⟩ : ∃ K : Nat, K = 1024 := ⟨_, rfl⟩
    have st := nat_shr (N := a / 2 ^ j) (m := K) (by omega) (by omega) (by omega)
    rw [Nat.div_div_eq_div_mul, ← Nat.pow_add] at st
    generalize hx : a / 2 ^ j = x at *
    generalize hy : a / 2 ^ (j + K) = y at *
    rw [show -(K : Int) = -1024 by omega] at st
    repeat (first | (simp only [go_sem, Nat.reduceEqDiff, Nat.reduceAdd, Nat.reduceSub, Nat.reduceMul, Nat.reduceLeDiff, Nat.reduceLT, reduceIte, reduceCtorEq, Nat.succ_ne_zero, elemsC, Int.reduceToNat, Nat.reducePow, j0, j1]) | (simp (disch := (first | omega | (simp only [AL, List.length_map]; omega))) only [AR, AL, ifT, ifF, take_all, List.length_cons, List.length_nil, Int.reduceToNat, Int.reducePow, Nat.reducePow, j0, j1]) | (refine wk_intro (by kernel_rfl) ?_) | (refine vf_of (by first | exact st) ?_))
    exact ⟨⟨j + K, by omega, by rw [hy], by rw [show -((m - (j + K) : Nat) : Int) = -((m - j : Nat) : Int) + 1024 by omega]⟩, by omega⟩
  · have st := nat_shr (N := a / 2 ^ j) (m := m - j) (by omega) (by omega) (by omega)
    rw [Nat.div_div_eq_div_mul, ← Nat.pow_add, show j + (m - j) = m by omega] at st
    generalize a / 2 ^ j = x at *
    generalize a / 2 ^ m = y at *
    repeat (first | (simp only [go_sem, Nat.reduceEqDiff, Nat.reduceAdd, Nat.reduceSub, Nat.reduceMul, Nat.reduceLeDiff, Nat.reduceLT, reduceIte, reduceCtorEq, Nat.succ_ne_zero, elemsC, Int.reduceToNat, Nat.reducePow, j0, j1]) | (simp (disch := (first | omega | (simp only [AL, List.length_map]; omega))) only [AR, AL, ifT, ifF, take_all, List.length_cons, List.length_nil, Int.reduceToNat, Int.reducePow, Nat.reducePow, j0, j1]) | (refine wk_intro (by kernel_rfl) ?_) | (refine vf_of (by first | exact st) ?_))
end Go.Proofs.YtecjelnpmcnbaaaGreat
namespace Go.Proofs.YtecjelnpmcnbaaaGreat
open Go.Ev
theorem fix_Mul {a b c d w : Nat} (h1 : (lim a).length ≤ 100000000) (h2 : (lim b).length ≤ 100000000) (h3 : (lim c).length ≤ 100000000) (h4 : (lim d).length ≤ 100000000) (hw : w ≤ 1000000000) (h0 : 0 < w) : Go.Ev.Fn CX 197 [spanV a b, spanV c d, .int .i64 (w : Int)] (spanV (a * c / 2 ^ w) (b * d / 2 ^ w + 1)) := by
  have m1 := nat_MulL (N := a) (D := c) (by omega) (by omega)
  have m2 := nat_MulL (N := b) (D := d) (by omega) (by omega)
  have l1 := lim_len_mul (a := a) (b := c)
  have l2 := lim_len_mul (a := b) (b := d)
  have s1 := fix_shr (a := a * c) (m := w) (by omega) hw h0
  have s2 := fix_shr (a := b * d) (m := w) (by omega) hw h0
  have l3 := lim_len_mono (Nat.div_le_self (b * d) (2 ^ w))
  have n1 := fix_Next (a := b * d / 2 ^ w) (by omega)
  generalize a * c / 2 ^ w = x at *
  generalize b * d / 2 ^ w = y at *
  generalize a * c = u at *
  generalize b * d = v at *
  have e0 : (0 : Int) - (w : Int) = -(w : Int) := by omega
  refine Go.Ev.Fn.intro (fn := Tryz.f197) (body := (Tryz.f197).body.get!) (by kernel_rfl) (by kernel_rfl) (by kernel_rfl) (fun _ => rfl) (Nat.le_of_ble_eq_true (by kernel_rfl)) ?_; unfold Tryz.f197; simp only [Option.get!_some]
  repeat (first | (simp only [go_sem, Nat.reduceEqDiff, Nat.reduceAdd, Nat.reduceSub, Nat.reduceMul, Nat.reduceLeDiff, Nat.reduceLT, reduceIte, reduceCtorEq, Nat.succ_ne_zero, elemsC, Int.reduceToNat, Nat.reducePow, e0]) | (simp (disch := (first | omega | (simp only [AL, List.length_map]; omega))) only [AR, AL, ifT, ifF, take_all, List.length_cons, List.length_nil, Int.reduceToNat, Int.reducePow, Nat.reducePow, e0]) | (refine wk_intro (by kernel_rfl) ?_) | (refine vp_draw (id := 1) (l := [8, 10, 11, 16, 18, 19, 22]) (by kernel_rfl) ?_) | (refine vf_of (by first | exact m1 | exact s1 | exact m2 | exact s2 | exact n1) ?_))
end Go.Proofs.YtecjelnpmcnbaaaGreat
namespace Go.Proofs.YtecjelnpmcnbaaaGreat
open Go.Ev
theorem fix_Of {n d w : Nat} (h1 : (lim n).length ≤ 100000000) (h2 : (lim d).length ≤ 100000000) (hd : d ≠ 0) (hw : w ≤ 1000000000) : Go.Ev.Fn CX 223 [natV (lim n), natV (lim d), .int .i64 (w : Int)] (spanV (n * 2 ^ w / d) (n * 2 ^ w / d + 1)) := by
  have s1 := fix_shl (a := n) (m := w) (by omega) hw
  have l1 := lim_len_shl (a := n) (n := w)
  have o1 := fix_Over' (N := n * 2 ^ w) (D := d) hd (by omega) (by omega)
  have l3 := lim_len_mono (Nat.div_le_self (n * 2 ^ w) d)
  have n1 := fix_Next (a := n * 2 ^ w / d) (by omega)
  generalize n * 2 ^ w / d = x at *
  generalize n * 2 ^ w = y at *
  refine Go.Ev.Fn.intro (fn := Tryz.f223) (body := (Tryz.f223).body.get!) (by kernel_rfl) (by kernel_rfl) (by kernel_rfl) (fun _ => rfl) (Nat.le_of_ble_eq_true (by kernel_rfl)) ?_; unfold Tryz.f223; simp only [Option.get!_some]
  repeat (first | (simp only [go_sem, Nat.reduceEqDiff, Nat.reduceAdd, Nat.reduceSub, Nat.reduceMul, Nat.reduceLeDiff, Nat.reduceLT, reduceIte, reduceCtorEq, Nat.succ_ne_zero, elemsC, Int.reduceToNat, Nat.reducePow]) | (simp (disch := (first | omega | (simp only [AL, List.length_map]; omega))) only [AR, AL, ifT, ifF, take_all, List.length_cons, List.length_nil, Int.reduceToNat, Int.reducePow, Nat.reducePow]) | (refine wk_intro (by kernel_rfl) ?_) | (refine vf_of (by first | exact s1 | exact o1 | exact n1) ?_))
theorem fix_Floor {a b w p : Nat} (h1 : (lim a).length ≤ 100000000) (h2 : (lim b).length ≤ 100000000) (hp : p < w) (hw : w ≤ 1000000000) : Go.Ev.Fn CX 222 [spanV a b, .int .i64 (w : Int), .int .i64 (p : Int)] (.tup [natV (lim (a / 2 ^ (w - p))), .bool (decide (a / 2 ^ (w - p) = (b - 1) / 2 ^ (w - p)))]) := by
  have e0 : (p : Int) - (w : Int) = -((w - p : Nat) : Int) := by omega
  have l1 := lim_len1
  have s1 := fix_shr (a := a) (m := w - p) (by omega) (by omega) (by omega)
  have o := fix_One
  have m1 := fix_Less' (N := b) (D := 1) (by omega) (by omega)
  have l2 := lim_len_mono (Nat.sub_le b 1)
  have s2 := fix_shr (a := b - 1) (m := w - p) (by omega) (by omega) (by omega)
  have l3 := lim_len_mono (Nat.div_le_self a (2 ^ (w - p)))
  have l4 := lim_len_mono (Nat.div_le_self (b - 1) (2 ^ (w - p)))
  have c := nat_CmpL (N := a / 2 ^ (w - p)) (D := (b - 1) / 2 ^ (w - p)) (by omega) (by omega)
  generalize a / 2 ^ (w - p) = x at *
  generalize (b - 1) / 2 ^ (w - p) = y at *
  generalize b - 1 = b' at *
  have e1 : (cmpN x y == 0) = decide (x = y) := by
    rw [show (cmpN x y == 0) = decide (cmpN x y = 0) from by by_cases h : cmpN x y = 0 <;> simp [h]]
    exact decide_eq_decide.2 (by unfold cmpN; split <;> (try split) <;> omega)
  generalize cmpN x y = z at *
  generalize decide (x = y) = q at *
  generalize hk : w - p = k at *
  refine Go.Ev.Fn.intro (fn := Tryz.f222) (body := (Tryz.f222).body.get!) (by kernel_rfl) (by kernel_rfl) (by kernel_rfl) (fun _ => rfl) (Nat.le_of_ble_eq_true (by kernel_rfl)) ?_; unfold Tryz.f222; simp only [Option.get!_some]
  repeat (first | (simp only [go_sem, Nat.reduceEqDiff, Nat.reduceAdd, Nat.reduceSub, Nat.reduceMul, Nat.reduceLeDiff, Nat.reduceLT, reduceIte, reduceCtorEq, Nat.succ_ne_zero, elemsC, Int.reduceToNat, Nat.reducePow, e0, e1]) | (simp (disch := (first | omega | (simp only [AL, List.length_map]; omega))) only [AR, AL, ifT, ifF, take_all, List.length_cons, List.length_nil, Int.reduceToNat, Int.reducePow, Nat.reducePow, e0, e1]) | (refine wk_intro (by kernel_rfl) ?_) | (refine vp_draw (id := 2) (l := [18, 19, 20, 8, 24]) (by kernel_rfl) ?_) | (refine vf_of (by first | exact s1 | exact o | exact m1 | exact s2 | exact c) ?_))
end Go.Proofs.YtecjelnpmcnbaaaGreat
namespace Go.Proofs.YtecjelnpmcnbaaaGreat
open Go.Ev
end Go.Proofs.YtecjelnpmcnbaaaGreat
namespace Go.Proofs.YtecjelnpmcnbaaaGreat
open Go.Ev
end Go.Proofs.YtecjelnpmcnbaaaGreat
namespace Go.Proofs.YtecjelnpmcnbaaaGreat
open Go.Ev
end Go.Proofs.YtecjelnpmcnbaaaGreat
namespace Go.Proofs.YtecjelnpmcnbaaaGreat
open Go.Ev
theorem rat_Zero {v : SV} {q : Rat} {L : Nat} (hv : RatA v q L) (hL : 1 ≤ L) (hL2 : L ≤ 16777216) : Go.Ev.Fn CX 184 [v] (.bool (decide (q = 0))) := by
  have hN := rat_Norm hv (by omega)
  obtain ⟨s, n, d, rfl, -⟩ := hv
  by_cases h : q = 0
  · subst h
    rw [decide_eq_true rfl]
    rw [rv_zero] at hN
    refine Go.Ev.Fn.intro (fn := Tryz.f184) (body := (Tryz.f184).body.get!) (by kernel_rfl) (by kernel_rfl) (by kernel_rfl) (fun _ => rfl) (Nat.le_of_ble_eq_true (by kernel_rfl)) ?_; unfold Tryz.f184; simp only [Option.get!_some]
    repeat (first | (simp only [go_sem, Nat.reduceEqDiff, Nat.reduceAdd, Nat.reduceSub, Nat.reduceMul, Nat.reduceLeDiff, Nat.reduceLT, reduceIte, reduceCtorEq, Nat.succ_ne_zero, elemsC, Int.reduceToNat, Nat.reducePow]) | (simp (disch := (first | omega | (simp only [AL, List.length_map]; omega))) only [AR, AL, ifT, ifF, take_all, List.length_cons, List.length_nil, Int.reduceToNat, Int.reducePow, Nat.reducePow]) | (refine wk_intro (by kernel_rfl) ?_) | (refine vf_of (by first | exact hN) ?_))
  · have hp := lim_pos (N := q.num.natAbs) (fun e => h (num_zero.1 (by omega)))
    rw [decide_eq_false h]
    refine Go.Ev.Fn.intro (fn := Tryz.f184) (body := (Tryz.f184).body.get!) (by kernel_rfl) (by kernel_rfl) (by kernel_rfl) (fun _ => rfl) (Nat.le_of_ble_eq_true (by kernel_rfl)) ?_; unfold Tryz.f184; simp only [Option.get!_some]
    repeat (first | (simp only [go_sem, Nat.reduceEqDiff, Nat.reduceAdd, Nat.reduceSub, Nat.reduceMul, Nat.reduceLeDiff, Nat.reduceLT, reduceIte, reduceCtorEq, Nat.succ_ne_zero, elemsC, Int.reduceToNat, Nat.reducePow]) | (simp (disch := (first | omega | (simp only [AL, List.length_map]; omega))) only [AR, AL, ifT, ifF, take_all, List.length_cons, List.length_nil, Int.reduceToNat, Int.reducePow, Nat.reducePow]) | (refine wk_intro (by kernel_rfl) ?_) | (refine vf_of (by first | exact hN) ?_))
theorem ref2_Zero {v : SV} {q : Rat} {L : Nat} (hv : RatA v q L) (hL : 1 ≤ L) (hL2 : L ≤ 16777216) : Go.Ev.Fn CX 96 [v] (.bool (decide (q = 0))) := by
  have hN := ref2_Norm hv (by omega)
  obtain ⟨s, n, d, rfl, -⟩ := hv
  by_cases h : q = 0
  · subst h
    rw [decide_eq_true rfl]
    rw [rv_zero] at hN
    refine Go.Ev.Fn.intro (fn := Tryz.f96) (body := (Tryz.f96).body.get!) (by kernel_rfl) (by kernel_rfl) (by kernel_rfl) (fun _ => rfl) (Nat.le_of_ble_eq_true (by kernel_rfl)) ?_; unfold Tryz.f96; simp only [Option.get!_some]
    repeat (first | (simp only [go_sem, Nat.reduceEqDiff, Nat.reduceAdd, Nat.reduceSub, Nat.reduceMul, Nat.reduceLeDiff, Nat.reduceLT, reduceIte, reduceCtorEq, Nat.succ_ne_zero, elemsC, Int.reduceToNat, Nat.reducePow]) | (simp (disch := (first | omega | (simp only [AL, List.length_map]; omega))) only [AR, AL, ifT, ifF, take_all, List.length_cons, List.length_nil, Int.reduceToNat, Int.reducePow, Nat.reducePow]) | (refine wk_intro (by kernel_rfl) ?_) | (refine vf_of (by first | exact hN) ?_))
  · have hp := lim_pos (N := q.num.natAbs) (fun e => h (num_zero.1 (by omega)))
    rw [decide_eq_false h]
    refine Go.Ev.Fn.intro (fn := Tryz.f96) (body := (Tryz.f96).body.get!) (by kernel_rfl) (by kernel_rfl) (by kernel_rfl) (fun _ => rfl) (Nat.le_of_ble_eq_true (by kernel_rfl)) ?_; unfold Tryz.f96; simp only [Option.get!_some]
    repeat (first | (simp only [go_sem, Nat.reduceEqDiff, Nat.reduceAdd, Nat.reduceSub, Nat.reduceMul, Nat.reduceLeDiff, Nat.reduceLT, reduceIte, reduceCtorEq, Nat.succ_ne_zero, elemsC, Int.reduceToNat, Nat.reducePow]) | (simp (disch := (first | omega | (simp only [AL, List.length_map]; omega))) only [AR, AL, ifT, ifF, take_all, List.length_cons, List.length_nil, Int.reduceToNat, Int.reducePow, Nat.reducePow]) | (refine wk_intro (by kernel_rfl) ?_) | (refine vf_of (by first | exact hN) ?_))
end Go.Proofs.YtecjelnpmcnbaaaGreat
namespace Go.Proofs.YtecjelnpmcnbaaaGreat
open Go.Ev
abbrev ballR (a b : Rat) : SV := .agg [.bool (decide (a.num < 0)), natV (lim a.num.natAbs), natV (lim a.den), .bool (decide (b.num < 0)), natV (lim b.num.natAbs), natV (lim b.den)]
theorem ball_Of {v : SV} {q : Rat} {L : Nat} (hv : RatA v q L) (hL : L ≤ 1000000) : Go.Ev.Fn CX 26 [v] (ballR q q) := by
  have n1 := rat_Norm hv (by omega)
  obtain ⟨s, n, d, rfl, -⟩ := hv
  refine Go.Ev.Fn.intro (fn := Tryz.f26) (body := (Tryz.f26).body.get!) (by kernel_rfl) (by kernel_rfl) (by kernel_rfl) (fun _ => rfl) (Nat.le_of_ble_eq_true (by kernel_rfl)) ?_; unfold Tryz.f26; simp only [Option.get!_some]
  repeat (first | (simp only [go_sem, Nat.reduceEqDiff, Nat.reduceAdd, Nat.reduceSub, Nat.reduceMul, Nat.reduceLeDiff, Nat.reduceLT, reduceIte, reduceCtorEq, Nat.succ_ne_zero, elemsC, Int.reduceToNat, Nat.reducePow]) | (simp (disch := (first | omega | (simp only [AL, List.length_map]; omega))) only [AR, AL, ifT, ifF, take_all, List.length_cons, List.length_nil, Int.reduceToNat, Int.reducePow, Nat.reducePow]) | (refine wk_intro (by kernel_rfl) ?_) | (refine vp_draw (id := 1) (l := []) (by kernel_rfl) ?_) | (refine vf_of (by first | exact n1) ?_))
theorem ball_Sub {a b c d : Rat} {L : Nat} (ha : szR a L) (hb : szR b L) (hc : szR c L) (hd : szR d L) (hL : 1 ≤ L) (hL2 : L ≤ 1000000) : Go.Ev.Fn CX 153 [ballR a b, ballR c d] (ballR (a - d) (b - c)) := by
  have s1 := rat_Sub (RatA_rv ha) (RatA_rv hd) hL hL (by omega)
  have s2 := rat_Sub (RatA_rv hb) (RatA_rv hc) hL hL (by omega)
  refine Go.Ev.Fn.intro (fn := Tryz.f153) (body := (Tryz.f153).body.get!) (by kernel_rfl) (by kernel_rfl) (by kernel_rfl) (fun _ => rfl) (Nat.le_of_ble_eq_true (by kernel_rfl)) ?_; unfold Tryz.f153; simp only [Option.get!_some]
  repeat (first | (simp only [go_sem, Nat.reduceEqDiff, Nat.reduceAdd, Nat.reduceSub, Nat.reduceMul, Nat.reduceLeDiff, Nat.reduceLT, reduceIte, reduceCtorEq, Nat.succ_ne_zero, elemsC, Int.reduceToNat, Nat.reducePow]) | (simp (disch := (first | omega | (simp only [AL, List.length_map]; omega))) only [AR, AL, ifT, ifF, take_all, List.length_cons, List.length_nil, Int.reduceToNat, Int.reducePow, Nat.reducePow]) | (refine wk_intro (by kernel_rfl) ?_) | (refine vp_draw (id := 1) (l := []) (by kernel_rfl) ?_) | (refine vf_of (by first | exact s1 | exact s2) ?_))
end Go.Proofs.YtecjelnpmcnbaaaGreat
namespace Go.Proofs.YtecjelnpmcnbaaaGreat
open Go.Ev
theorem mul_denE (D : Rat) : D * (D.den : Rat) = (D.num : Rat) := by
  have dn : (0 : Rat) < (D.den : Rat) := by exact_mod_cast Rat.den_pos (self := D)
  have := (Rat.mkRat_eq_div D.num D.den).symm.trans (Rat.mkRat_self D)
  have e := Rat.div_mul_cancel (a := (D.num : Rat)) (b := (D.den : Rat)) (by grind)
  rwa [this] at e
theorem fix_Rat {q : Rat} {w L : Nat} (hz : szR q L) (hL : L ≤ 1000) (hw : w ≤ 10000) : Go.Ev.Fn CX 228 [rv q, .int .i64 (w : Int)] (spanV (q.num.natAbs * 2 ^ w / q.den) (q.num.natAbs * 2 ^ w / q.den + 1)) := by
  obtain ⟨z1, z2⟩ := hz
  have o := fix_Of (n := q.num.natAbs) (d := q.den) (w := w) (by omega) (by omega) q.den_nz (by omega)
  generalize q.num.natAbs * 2 ^ w / q.den = x at *
  refine Go.Ev.Fn.intro (fn := Tryz.f228) (body := (Tryz.f228).body.get!) (by kernel_rfl) (by kernel_rfl) (by kernel_rfl) (fun _ => rfl) (Nat.le_of_ble_eq_true (by kernel_rfl)) ?_; unfold Tryz.f228; simp only [Option.get!_some]
  repeat (first | (simp only [go_sem, Nat.reduceEqDiff, Nat.reduceAdd, Nat.reduceSub, Nat.reduceMul, Nat.reduceLeDiff, Nat.reduceLT, reduceIte, reduceCtorEq, Nat.succ_ne_zero, elemsC, Int.reduceToNat, Nat.reducePow]) | (simp (disch := (first | omega | (simp only [AL, List.length_map]; omega))) only [AR, AL, ifT, ifF, take_all, List.length_cons, List.length_nil, Int.reduceToNat, Int.reducePow, Nat.reducePow]) | (refine wk_intro (by kernel_rfl) ?_) | (refine vf_of (by first | exact o) ?_))
theorem fix_Unit {w : Nat} (hw : w ≤ 1000000000) : Go.Ev.Fn CX 225 [.int .i64 (w : Int)] (spanV (2 ^ w) (2 ^ w + 1)) := by
  have o := fix_One
  have l1 := lim_len1
  have s := fix_shl (a := 1) (m := w) (by omega) (by omega)
  have l := lim_len_shl (a := 1) (n := w)
  rw [Nat.one_mul] at s l
  have n1 := fix_Next (a := 2 ^ w) (by omega)
  generalize 2 ^ w = P at *
  refine Go.Ev.Fn.intro (fn := Tryz.f225) (body := (Tryz.f225).body.get!) (by kernel_rfl) (by kernel_rfl) (by kernel_rfl) (fun _ => rfl) (Nat.le_of_ble_eq_true (by kernel_rfl)) ?_; unfold Tryz.f225; simp only [Option.get!_some]
  repeat (first | (simp only [go_sem, Nat.reduceEqDiff, Nat.reduceAdd, Nat.reduceSub, Nat.reduceMul, Nat.reduceLeDiff, Nat.reduceLT, reduceIte, reduceCtorEq, Nat.succ_ne_zero, elemsC, Int.reduceToNat, Nat.reducePow]) | (simp (disch := (first | omega | (simp only [AL, List.length_map]; omega))) only [AR, AL, ifT, ifF, take_all, List.length_cons, List.length_nil, Int.reduceToNat, Int.reducePow, Nat.reducePow]) | (refine wk_intro (by kernel_rfl) ?_) | (refine vf_of (by first | exact o | exact s | exact n1) ?_))
theorem fix_Told {a b w p : Nat} (ha : (lim a).length ≤ 10000) (hb : (lim b).length ≤ 10000) (hp : p < w) (hw : w ≤ 10000) : Go.Ev.Fn CX 186 [spanV a b, .int .i64 (w : Int), .int .i64 (p : Int)] (ballR (mkRat ((a / 2 ^ (w - p) : Nat) : Int) (2 ^ p)) (mkRat ((b / 2 ^ (w - p) + 1 : Nat) : Int) (2 ^ p))) := by
  have o := fix_One
  have l1 := lim_len1
  have sh := fix_shl (a := 1) (m := p) (by omega) (by omega)
  have lp := lim_len_shl (a := 1) (n := p)
  rw [Nat.one_mul] at sh lp
  have e0 : (p : Int) - (w : Int) = -((w - p : Nat) : Int) := by omega
  have s1 := fix_shr (a := a) (m := w - p) (by omega) (by omega) (by omega)
  have s2 := fix_shr (a := b) (m := w - p) (by omega) (by omega) (by omega)
  have l3 := lim_len_mono (Nat.div_le_self a (2 ^ (w - p)))
  have l4 := lim_len_mono (Nat.div_le_self b (2 ^ (w - p)))
  have n1 := fix_Next (a := b / 2 ^ (w - p)) (by omega)
  have l5 := lim_len_add (a := b / 2 ^ (w - p)) (b := 1) (L := 10000) (by omega) (by omega)
  have r1 := rat_OfL (s := false) (n := a / 2 ^ (w - p)) (d := 2 ^ p) (by omega) (by omega)
  have r2 := rat_OfL (s := false) (n := b / 2 ^ (w - p) + 1) (d := 2 ^ p) (by omega) (by omega)
  rw [show sgn false (a / 2 ^ (w - p)) = ((a / 2 ^ (w - p) : Nat) : Int) from rfl] at r1
  rw [show sgn false (b / 2 ^ (w - p) + 1) = ((b / 2 ^ (w - p) + 1 : Nat) : Int) from rfl] at r2
  generalize mkRat ((a / 2 ^ (w - p) : Nat) : Int) (2 ^ p) = q1 at *
  generalize mkRat ((b / 2 ^ (w - p) + 1 : Nat) : Int) (2 ^ p) = q2 at *
  generalize b / 2 ^ (w - p) + 1 = y' at *
  generalize a / 2 ^ (w - p) = x at *
  generalize b / 2 ^ (w - p) = y at *
  generalize 2 ^ p = P at *
  generalize hk : w - p = k at *
  refine Go.Ev.Fn.intro (fn := Tryz.f186) (body := (Tryz.f186).body.get!) (by kernel_rfl) (by kernel_rfl) (by kernel_rfl) (fun _ => rfl) (Nat.le_of_ble_eq_true (by kernel_rfl)) ?_; unfold Tryz.f186; simp only [Option.get!_some]
  repeat (first | (simp only [go_sem, Nat.reduceEqDiff, Nat.reduceAdd, Nat.reduceSub, Nat.reduceMul, Nat.reduceLeDiff, Nat.reduceLT, reduceIte, reduceCtorEq, Nat.succ_ne_zero, elemsC, Int.reduceToNat, Nat.reducePow, e0]) | (simp (disch := (first | omega | (simp only [AL, List.length_map]; omega))) only [AR, AL, ifT, ifF, take_all, List.length_cons, List.length_nil, Int.reduceToNat, Int.reducePow, Nat.reducePow, e0]) | (refine wk_intro (by kernel_rfl) ?_) | (refine vp_draw (id := 2) (l := [12, 16, 7, 20, 24, 25, 7]) (by kernel_rfl) ?_) | (refine vf_of (by first | exact o | exact sh | exact s1 | exact r1 | exact s2 | exact n1 | exact r2) ?_))
abbrev unN (q : Rat) (w : Nat) : Nat := q.num.natAbs * 2 ^ w / q.den
theorem fix_Ball {lo hi : Rat} {w L : Nat} (h1 : szR lo L) (h2 : szR hi L) (hL : L ≤ 1000) (hw : w ≤ 10000) : Go.Ev.Fn CX 200 [ballR lo hi, .int .i64 (w : Int)] (spanV (unN lo w) (unN hi w + 1)) := by
  have r1 : Go.Ev.Fn CX 228 [rv lo, .int .i64 (w : Int)] (spanV (unN lo w) (unN lo w + 1)) := fix_Rat h1 hL hw
  have r2 : Go.Ev.Fn CX 228 [rv hi, .int .i64 (w : Int)] (spanV (unN hi w) (unN hi w + 1)) := fix_Rat h2 hL hw
  generalize unN lo w = x at *
  generalize unN hi w = y at *
  refine Go.Ev.Fn.intro (fn := Tryz.f200) (body := (Tryz.f200).body.get!) (by kernel_rfl) (by kernel_rfl) (by kernel_rfl) (fun _ => rfl) (Nat.le_of_ble_eq_true (by kernel_rfl)) ?_; unfold Tryz.f200; simp only [Option.get!_some]
  repeat (first | (simp only [go_sem, Nat.reduceEqDiff, Nat.reduceAdd, Nat.reduceSub, Nat.reduceMul, Nat.reduceLeDiff, Nat.reduceLT, reduceIte, reduceCtorEq, Nat.succ_ne_zero, elemsC, Int.reduceToNat, Nat.reducePow]) | (simp (disch := (first | omega | (simp only [AL, List.length_map]; omega))) only [AR, AL, ifT, ifF, take_all, List.length_cons, List.length_nil, Int.reduceToNat, Int.reducePow, Nat.reducePow]) | (refine wk_intro (by kernel_rfl) ?_) | (refine vp_draw (id := 1) (l := []) (by kernel_rfl) ?_) | (refine vf_of (by first | exact r1 | exact r2) ?_))
theorem fix_Inverse {a b w : Nat} (h1 : (lim a).length ≤ 50000000) (h2 : (lim b).length ≤ 50000000) (ha : 0 < a) (hb : 0 < b) (hw : w ≤ 400000000) : Go.Ev.Fn CX 220 [spanV a b, .int .i64 (w : Int)] (spanV (2 ^ (2 * w) / b) (2 ^ (2 * w) / a + 1)) := by
  have o := fix_One
  have l1 := lim_len1
  have s := fix_shl (a := 1) (m := 2 * w) (by omega) (by omega)
  have l := lim_len_shl (a := 1) (n := 2 * w)
  rw [Nat.one_mul] at s l
  have o1 := fix_Over' (N := 2 ^ (2 * w)) (D := b) (by omega) (by omega) (by omega)
  have o2 := fix_Over' (N := 2 ^ (2 * w)) (D := a) (by omega) (by omega) (by omega)
  have l2 := lim_len_mono (Nat.div_le_self (2 ^ (2 * w)) a)
  have n1 := fix_Next (a := 2 ^ (2 * w) / a) (by omega)
  rw [show ((2 * w : Nat) : Int) = 2 * (w : Int) by omega] at s
  generalize 2 ^ (2 * w) / b = x at *
  generalize 2 ^ (2 * w) / a + 1 = y' at *
  generalize 2 ^ (2 * w) / a = y at *
  generalize 2 ^ (2 * w) = P at *
  refine Go.Ev.Fn.intro (fn := Tryz.f220) (body := (Tryz.f220).body.get!) (by kernel_rfl) (by kernel_rfl) (by kernel_rfl) (fun _ => rfl) (Nat.le_of_ble_eq_true (by kernel_rfl)) ?_; unfold Tryz.f220; simp only [Option.get!_some]
  repeat (first | (simp only [go_sem, Nat.reduceEqDiff, Nat.reduceAdd, Nat.reduceSub, Nat.reduceMul, Nat.reduceLeDiff, Nat.reduceLT, reduceIte, reduceCtorEq, Nat.succ_ne_zero, elemsC, Int.reduceToNat, Nat.reducePow]) | (simp (disch := (first | omega | (simp only [AL, List.length_map]; omega))) only [AR, AL, ifT, ifF, take_all, List.length_cons, List.length_nil, Int.reduceToNat, Int.reducePow, Nat.reducePow]) | (refine wk_intro (by kernel_rfl) ?_) | (refine vp_draw (id := 2) (l := [5, 12, 5, 16, 17]) (by kernel_rfl) ?_) | (refine vf_of (by first | exact o | exact s | exact o1 | exact o2 | exact n1) ?_))
theorem enc_inv {a b w : Nat} {q : Rat} (ha : 0 < a) (h : Enc w a b q) : Enc w (2 ^ (2 * w) / b) (2 ^ (2 * w) / a + 1) (1 / q) ∧ 0 < q := by
  obtain ⟨h1, h2⟩ := h
  have P := p2_pos w
  have aR : (0 : Rat) < (a : Rat) := by exact_mod_cast ha
  have qP : 0 < q * p2 w := by grind
  have q0 : 0 < q := by
    rcases Rat.le_total (a := q) (b := 0) with g | g
    · have := Rat.mul_le_mul_of_nonneg_right g (show 0 ≤ p2 w by grind)
      grind
    · by_cases e : q = 0
      · rw [e] at qP; grind
      · grind
  have bR : (0 : Rat) < (b : Rat) := by grind
  have hb : 0 < b := by exact_mod_cast bR
  have e0 : ((2 ^ (2 * w) : Nat) : Rat) = p2 w * p2 w := by
    show _ = ((2 ^ w : Nat) : Rat) * ((2 ^ w : Nat) : Rat)
    have : ((2 ^ w : Nat) : Rat) * ((2 ^ w : Nat) : Rat) = ((2 ^ w * 2 ^ w : Nat) : Rat) := by exact_mod_cast rfl
    rw [this, ← Nat.pow_add]
    congr 2
    omega
  have f := floor_le (a := 2 ^ (2 * w)) (d := b)
  have g := le_floor (a := 2 ^ (2 * w)) (d := a) ha
  rw [e0] at f g
  have iq : 1 / q * q = 1 := Rat.div_mul_cancel (by grind)
  have i0 : 0 ≤ 1 / q := by
    rcases Rat.le_total (a := 0) (b := 1 / q) with k | k
    · exact k
    · have := Rat.mul_le_mul_of_nonneg_right k (show 0 ≤ q by grind)
      grind
  generalize 1 / q = i at *
  refine ⟨⟨le_by bR ?_, le_by aR ?_⟩, q0⟩
  · -- x * b <= P * P = i * q * P * P <= i P * b
    have k1 := Rat.mul_le_mul_of_nonneg_left h2 (show 0 ≤ i * p2 w from Rat.mul_nonneg i0 (by grind))
    have k2 : i * p2 w * (q * p2 w) = p2 w * p2 w := by
      have : i * p2 w * (q * p2 w) = i * q * (p2 w * p2 w) := by grind
      rw [this, iq, Rat.one_mul]
    grind
  · have k1 := Rat.mul_le_mul_of_nonneg_left h1 (show 0 ≤ i * p2 w from Rat.mul_nonneg i0 (by grind))
    have k2 : i * p2 w * (q * p2 w) = p2 w * p2 w := by
      have : i * p2 w * (q * p2 w) = i * q * (p2 w * p2 w) := by grind
      rw [this, iq, Rat.one_mul]
    grind
theorem unN_le {q : Rat} (h0 : 0 ≤ q) (w : Nat) : ((unN q w : Nat) : Rat) ≤ q * p2 w ∧ q * p2 w ≤ ((unN q w + 1 : Nat) : Rat) := by
  have D : (0 : Rat) < (q.den : Rat) := by exact_mod_cast q.den_pos
  have f := floor_le (a := q.num.natAbs * 2 ^ w) (d := q.den)
  have g := le_floor (a := q.num.natAbs * 2 ^ w) (d := q.den) q.den_pos
  have e : ((q.num.natAbs * 2 ^ w : Nat) : Rat) = q * p2 w * (q.den : Rat) := by
    have c1 : ((q.num.natAbs * 2 ^ w : Nat) : Rat) = ((q.num.natAbs : Nat) : Rat) * p2 w := by exact_mod_cast rfl
    have h := mul_denE q
    have h2 : ((q.num.natAbs : Nat) : Rat) = (q.num : Rat) := by
      have : (q.num.natAbs : Int) = q.num := Int.natAbs_of_nonneg (Rat.num_nonneg.2 h0)
      rw [← this]; rfl
    rw [c1, h2, ← h]
    grind
  rw [e] at f g
  exact ⟨le_by D f, le_by D g⟩
theorem ball_enc {lo hi q : Rat} (h0 : 0 ≤ lo) (h1 : lo ≤ q) (h2 : q ≤ hi) (w : Nat) : Enc w (unN lo w) (unN hi w + 1) q := by
  have P := p2_pos w
  have a := (unN_le h0 w).1
  have b := (unN_le (show 0 ≤ hi by grind) w).2
  have c := Rat.mul_le_mul_of_nonneg_right h1 (show 0 ≤ p2 w by grind)
  have d := Rat.mul_le_mul_of_nonneg_right h2 (show 0 ≤ p2 w by grind)
  exact ⟨Rat.le_trans a c, Rat.le_trans d b⟩
end Go.Proofs.YtecjelnpmcnbaaaGreat
namespace Go.Proofs.YtecjelnpmcnbaaaGreat
open Go.Ev
set_option maxHeartbeats 1000000 in
theorem fix_Power {a1 a2 n w F : Nat} (hn : n < 2 ^ F) (hF : F ≤ 4) (h1 : (lim a1).length ≤ 50) (h2 : (lim a2).length ≤ 50) (hw : w ≤ 1000) (hw0 : 0 < w) :
    Go.Ev.Fn CX 248 [spanV a1 a2, .int .i64 (n : Int), .int .i64 (w : Int)] (spanV (powGo w F n (2 ^ w) (2 ^ w + 1) a1 a2).1 (powGo w F n (2 ^ w) (2 ^ w + 1) a1 a2).2) := by
  have un := fix_Unit (w := w) (by omega)
  have l1 := lim_len1
  have lp := lim_len_shl (a := 1) (n := w)
  rw [Nat.one_mul] at lp
  have lp2 := lim_len_add (a := 2 ^ w) (b := 1) (L := 40) (by omega) (by omega)
  obtain ⟨R, hR⟩ : ∃ R, R = powGo w F n (2 ^ w) (2 ^ w + 1) a1 a2 := ⟨_, rfl⟩
  rw [← hR]
  have hF16 : (2 : Nat) ^ F ≤ 16 := Nat.pow_le_pow_right (n := 2) (by omega) hF
  have hF4 : 100 * 2 ^ F ≤ 1600 := by omega
  refine Go.Ev.Fn.intro (fn := Tryz.f248) (body := (Tryz.f248).body.get!) (by kernel_rfl) (by kernel_rfl) (by kernel_rfl) (fun _ => rfl) (Nat.le_of_ble_eq_true (by kernel_rfl)) ?_; unfold Tryz.f248; simp only [Option.get!_some]
  repeat (first | (simp only [go_sem, Nat.reduceEqDiff, Nat.reduceAdd, Nat.reduceSub, Nat.reduceMul, Nat.reduceLeDiff, Nat.reduceLT, reduceIte, reduceCtorEq, Nat.succ_ne_zero, elemsC, Int.reduceToNat, Nat.reducePow]) | (simp (disch := (first | omega | (simp only [AL, List.length_map]; omega))) only [AR, AL, ifT, ifF, take_all, List.length_cons, List.length_nil, Int.reduceToNat, Int.reducePow, Nat.reducePow]) | (refine wk_intro (by kernel_rfl) ?_) | (refine vf_of (by first | exact un) ?_))
  refine vp_loop_inv (fun s => s.tmp 2 = .sv (.int .i64 (w : Int)) ∧ s.tmp 3 = .ptr 3 0 0 ∧ s.tmp 6 = .ptr 6 0 0 ∧ s.obj 6 0 = some [.sl 0 [], .sl 0 []] ∧ s.tmp 7 = .ptr 7 0 0 ∧
      ∃ f m c1 c2 d1 d2 e g : Nat, s.tmp 1 = .sv (.int .i64 (m : Int)) ∧ m < 2 ^ f ∧ f ≤ F ∧ s.obj 7 0 = some [natV (lim c1), natV (lim c2)] ∧ s.obj 3 0 = some [natV (lim d1), natV (lim d2)] ∧ powGo w f m c1 c2 d1 d2 = R ∧
        (lim c1).length ≤ e ∧ (lim c2).length ≤ e ∧ (lim d1).length ≤ g ∧ (lim d2).length ≤ g ∧ (g + 1) * 2 ^ f ≤ 1600 ∧ e + 1601 * f ≤ 7000 ∧ 1 ≤ e)
    (fun s => match s.tmp 1 with | .sv (.int _ i) => i.toNat | _ => 0) ⟨rfl, rfl, rfl, rfl, rfl, F, n, 2 ^ w, 2 ^ w + 1, a1, a2, 41, 50, rfl, hn, Nat.le_refl _, rfl, rfl, hR.symm, by omega, by omega, by omega, by omega, by omega, by omega, by omega⟩ ?_
  rintro s ⟨i2, i3, i6, o6, i7, f, m, c1, c2, d1, d2, e, g, i1, hm, hf, o7, o3, hp, x1, x2, x3, x4, x5, x6, x7⟩
  cases f with
  | zero =>
    obtain rfl : m = 0 := by omega
    rw [powGo_zero] at hp
    subst hp
    repeat (first | (simp only [go_sem, Nat.reduceEqDiff, Nat.reduceAdd, Nat.reduceSub, Nat.reduceMul, Nat.reduceLeDiff, Nat.reduceLT, reduceIte, reduceCtorEq, Nat.succ_ne_zero, elemsC, Int.reduceToNat, Nat.reducePow, i2, i3, i6, o6, i7, i1, o7, o3]) | (simp (disch := (first | omega | (simp only [AL, List.length_map]; omega))) only [AR, AL, ifT, ifF, take_all, List.length_cons, List.length_nil, Int.reduceToNat, Int.reducePow, Nat.reducePow, i2, i3, i6, o6, i7, i1, o7, o3]) | (refine wk_intro (by kernel_rfl) ?_))
  | succ f =>
    rw [powGo] at hp
    by_cases h0 : m = 0
    · subst h0
      rw [if_pos rfl] at hp
      subst hp
      repeat (first | (simp only [go_sem, Nat.reduceEqDiff, Nat.reduceAdd, Nat.reduceSub, Nat.reduceMul, Nat.reduceLeDiff, Nat.reduceLT, reduceIte, reduceCtorEq, Nat.succ_ne_zero, elemsC, Int.reduceToNat, Nat.reducePow, i2, i3, i6, o6, i7, i1, o7, o3]) | (simp (disch := (first | omega | (simp only [AL, List.length_map]; omega))) only [AR, AL, ifT, ifF, take_all, List.length_cons, List.length_nil, Int.reduceToNat, Int.reducePow, Nat.reducePow, i2, i3, i6, o6, i7, i1, o7, o3]) | (refine wk_intro (by kernel_rfl) ?_))
    · rw [if_neg h0] at hp
      rw [Nat.pow_succ] at hm x5
      have hp1 : 1 ≤ 2 ^ f := Nat.pow_pos (by omega)
      have hg : g + 1 ≤ 1600 := by
        have := Nat.le_mul_of_pos_right (g + 1) (show 0 < 2 ^ f * 2 by omega)
        omega
      have hm16 : m < 16 := by
        have : 2 ^ f * 2 ≤ 16 := by rw [← Nat.pow_succ]; exact Nat.le_trans (Nat.pow_le_pow_right (n := 2) (by omega) hf) hF16
        omega
      have an := and_one64 (a := m) (by omega)
      have y1 := lim_len_mul (a := c1) (b := d1)
      have y2 := lim_len_mul (a := c2) (b := d2)
      have y3 := lim_len_mul (a := d1) (b := d1)
      have y4 := lim_len_mul (a := d2) (b := d2)
      have w1 := lim_len_mono (Nat.div_le_self (c1 * d1) (2 ^ w))
      have w2 := lim_len_add (a := c2 * d2 / 2 ^ w) (b := 1) (L := e + g) (Nat.le_trans (lim_len_mono (Nat.div_le_self (c2 * d2) (2 ^ w))) (by omega)) (by omega)
      have w3 := lim_len_mono (Nat.div_le_self (d1 * d1) (2 ^ w))
      have hge : (g + g + 1 + 1) * 2 ^ f ≤ 1600 := by
        have : (g + g + 1 + 1) * 2 ^ f = (g + 1) * (2 ^ f * 2) := by
          rw [Nat.mul_comm (2 ^ f) 2, ← Nat.mul_assoc]; congr 1; omega
        omega
      have mm := fix_Mul (a := c1) (b := c2) (c := d1) (d := d2) (w := w) (by omega) (by omega) (by omega) (by omega) (by omega) hw0
      have sq := fix_Mul (a := d1) (b := d2) (c := d1) (d := d2) (w := w) (by omega) (by omega) (by omega) (by omega) (by omega) hw0
      have w4 : (lim (d2 * d2 / 2 ^ w + 1)).length ≤ g + g + 1 := by
        rcases Nat.eq_zero_or_pos g with hg0 | hg0
        · have : d2 = 0 := by
            have : (lim d2).length = 0 := by omega
            rw [List.length_eq_zero_iff] at this
            exact lim_eq_nil.1 this
          subst this
          rw [Nat.zero_mul, Nat.zero_div]
          show (lim 1).length ≤ _
          omega
        · exact lim_len_add (a := d2 * d2 / 2 ^ w) (b := 1) (L := g + g) (Nat.le_trans (lim_len_mono (Nat.div_le_self (d2 * d2) (2 ^ w))) (by omega)) (by omega)
      generalize c1 * d1 / 2 ^ w = u1 at *
      generalize c2 * d2 / 2 ^ w + 1 = u2 at *
      generalize d1 * d1 / 2 ^ w = v1 at *
      generalize d2 * d2 / 2 ^ w + 1 = v2 at *
      by_cases hod : m % 2 = 1
      · rw [if_pos hod] at hp
        rw [hod] at an
        repeat (first | (simp only [go_sem, Nat.reduceEqDiff, Nat.reduceAdd, Nat.reduceSub, Nat.reduceMul, Nat.reduceLeDiff, Nat.reduceLT, reduceIte, reduceCtorEq, Nat.succ_ne_zero, elemsC, Int.reduceToNat, Nat.reducePow, i2, i3, i6, o6, i7, i1, o7, o3, an]) | (simp (disch := (first | omega | (simp only [AL, List.length_map]; omega))) only [AR, AL, ifT, ifF, take_all, List.length_cons, List.length_nil, Int.reduceToNat, Int.reducePow, Nat.reducePow, i2, i3, i6, o6, i7, i1, o7, o3, an]) | (refine wk_intro (by kernel_rfl) ?_) | (refine vf_of (by first | exact mm | exact sq) ?_))
        exact ⟨⟨f, m / 2, u1, u2, v1, v2, e + g + 1, g + g + 1, rfl, by omega, by omega, rfl, rfl, hp, by omega, by omega, by omega, by omega, hge, by omega, by omega⟩, by omega⟩
      · rw [if_neg hod] at hp
        rw [show m % 2 = 0 by omega] at an
        repeat (first | (simp only [go_sem, Nat.reduceEqDiff, Nat.reduceAdd, Nat.reduceSub, Nat.reduceMul, Nat.reduceLeDiff, Nat.reduceLT, reduceIte, reduceCtorEq, Nat.succ_ne_zero, elemsC, Int.reduceToNat, Nat.reducePow, i2, i3, i6, o6, i7, i1, o7, o3, an]) | (simp (disch := (first | omega | (simp only [AL, List.length_map]; omega))) only [AR, AL, ifT, ifF, take_all, List.length_cons, List.length_nil, Int.reduceToNat, Int.reducePow, Nat.reducePow, i2, i3, i6, o6, i7, i1, o7, o3, an]) | (refine wk_intro (by kernel_rfl) ?_) | (refine vf_of (by first | exact sq) ?_))
        exact ⟨⟨f, m / 2, c1, c2, v1, v2, e, g + g + 1, rfl, by omega, by omega, rfl, rfl, hp, by omega, by omega, by omega, by omega, hge, by omega, by omega⟩, by omega⟩
end Go.Proofs.YtecjelnpmcnbaaaGreat
namespace Go.Proofs.YtecjelnpmcnbaaaGreat
open Go.Ev
theorem gam_run (a b c : Nat) (to : Int) (ha : 1 ≤ a) (hb : 1 ≤ b) (h1 : c = 0 ∨ ((a + (c - 1) * b : Nat) : Int) ≤ to) (h2 : to < ((a + c * b : Nat) : Int)) (hto : to ≤ 1073741824) (hto0 : -9223372036854775808 ≤ to) (hc : c ≤ 1048576) (hab : a ≤ 1073741824) (hbb : b ≤ 1073741824) :
    Go.Ev.Fn CX 252 [.int .i64 (a : Int), .int .i64 (b : Int), .int .i64 to] (natV (lim (prodN a b c))) := by
  have hle : ∀ i, i < c → ((a + i * b : Nat) : Int) ≤ to := by
    intro i hi
    rcases h1 with h | h
    · omega
    · have : i * b ≤ (c - 1) * b := Nat.mul_le_mul_right _ (by omega)
      omega
  have hlen : ∀ i, i ≤ c → (lim (prodN a b i)).length ≤ i + 1 := fun i hi => prodN_len fun j hj => by have := hle j (by omega); omega
  have o1 := nat_Of 1 (by omega)
  refine Go.Ev.Fn.intro (fn := Tryz.f252) (body := (Tryz.f252).body.get!) (by kernel_rfl) (by kernel_rfl) (by kernel_rfl) (fun _ => rfl) (Nat.le_of_ble_eq_true (by kernel_rfl)) ?_; unfold Tryz.f252; simp only [Option.get!_some]
  repeat (first | (simp only [go_sem, Nat.reduceEqDiff, Nat.reduceAdd, Nat.reduceSub, Nat.reduceMul, Nat.reduceLeDiff, Nat.reduceLT, reduceIte, reduceCtorEq, Nat.succ_ne_zero, elemsC, Int.reduceToNat, Nat.reducePow]) | (simp (disch := (first | omega | (simp only [AL, List.length_map]; omega))) only [AR, AL, ifT, ifF, take_all, List.length_cons, List.length_nil, Int.reduceToNat, Int.reducePow, Nat.reducePow]) | (refine wk_intro (by kernel_rfl) ?_) | (refine vf_of (by first | exact o1) ?_))
  refine vp_loop_inv (fun s => s.tmp 1 = .sv (.int .i64 (b : Int)) ∧ s.tmp 2 = .sv (.int .i64 to) ∧ ∃ i : Nat, s.tmp 8 = .sv (.int .i64 ((a + i * b : Nat) : Int)) ∧ s.tmp 7 = .sv (natV (lim (prodN a b i))) ∧ i ≤ c)
    (fun s => match s.tmp 8 with | .sv (.int _ n) => (to + 1 - n).toNat | _ => 0) ⟨rfl, rfl, 0, by rw [Nat.zero_mul, Nat.add_zero]; rfl, rfl, by omega⟩ ?_
  rintro s ⟨i1, i2, i, i8, i7, hi⟩
  by_cases hend : i = c
  · subst hend
    have hlt : ¬ ((a + i * b : Nat) : Int) ≤ to := by omega
    repeat (first | (simp only [go_sem, Nat.reduceEqDiff, Nat.reduceAdd, Nat.reduceSub, Nat.reduceMul, Nat.reduceLeDiff, Nat.reduceLT, reduceIte, reduceCtorEq, Nat.succ_ne_zero, elemsC, Int.reduceToNat, Nat.reducePow, i1, i2, i8, i7]) | (simp (disch := (first | omega | (simp only [AL, List.length_map]; omega))) only [AR, AL, ifT, ifF, take_all, List.length_cons, List.length_nil, Int.reduceToNat, Int.reducePow, Nat.reducePow, i1, i2, i8, i7]) | (refine wk_intro (by kernel_rfl) ?_))
  · have h3 := hle i (by omega)
    have hl := hlen i hi
    have oN := nat_Of (a + i * b) (by omega)
    have hl2 := lim_len_one (a := a + i * b) (by omega)
    have hn : a + (i + 1) * b = a + i * b + b := by rw [Nat.add_mul, Nat.one_mul, Nat.add_assoc]
    have hnew : prodN a b (i + 1) = prodN a b i * (a + i * b) := rfl
    generalize hv : a + i * b = v at *
    repeat (first | (simp only [go_sem, Nat.reduceEqDiff, Nat.reduceAdd, Nat.reduceSub, Nat.reduceMul, Nat.reduceLeDiff, Nat.reduceLT, reduceIte, reduceCtorEq, Nat.succ_ne_zero, elemsC, Int.reduceToNat, Nat.reducePow, i1, i2, i8, i7]) | (simp (disch := (first | omega | (simp only [AL, List.length_map]; omega))) only [AR, AL, ifT, ifF, take_all, List.length_cons, List.length_nil, Int.reduceToNat, Int.reducePow, Nat.reducePow, i1, i2, i8, i7]) | (refine wk_intro (by kernel_rfl) ?_) | (refine vf_of (by first | exact oN) ?_))
    refine vf_of (nat_MulL (by omega) (by omega)) ?_; repeat (first | (simp only [go_sem, Nat.reduceEqDiff, Nat.reduceAdd, Nat.reduceSub, Nat.reduceMul, Nat.reduceLeDiff, Nat.reduceLT, reduceIte, reduceCtorEq, Nat.succ_ne_zero, elemsC, Int.reduceToNat, Nat.reducePow, i1, i2, i8, i7]) | (simp (disch := (first | omega | (simp only [AL, List.length_map]; omega))) only [AR, AL, ifT, ifF, take_all, List.length_cons, List.length_nil, Int.reduceToNat, Int.reducePow, Nat.reducePow, i1, i2, i8, i7]) | (refine wk_intro (by kernel_rfl) ?_))
    refine ⟨⟨i + 1, by rw [hn], by rw [hnew], by omega⟩, by omega⟩
theorem gam_whole (n : Nat) (hn : (lim n).length ≤ 536870912) : Go.Ev.Fn CX 251 [natV (lim n)] (rv (n : Rat)) := by
  have o1 := nat_Of 1 (by omega)
  have h1 := lim_len1
  have hOf := rat_OfL (s := false) (n := n) (d := 1) hn (by omega)
  rw [show mkRat (sgn false n) 1 = (n : Rat) from Rat.mkRat_one _] at hOf
  refine Go.Ev.Fn.intro (fn := Tryz.f251) (body := (Tryz.f251).body.get!) (by kernel_rfl) (by kernel_rfl) (by kernel_rfl) (fun _ => rfl) (Nat.le_of_ble_eq_true (by kernel_rfl)) ?_; unfold Tryz.f251; simp only [Option.get!_some]
  repeat (first | (simp only [go_sem, Nat.reduceEqDiff, Nat.reduceAdd, Nat.reduceSub, Nat.reduceMul, Nat.reduceLeDiff, Nat.reduceLT, reduceIte, reduceCtorEq, Nat.succ_ne_zero, elemsC, Int.reduceToNat, Nat.reducePow]) | (simp (disch := (first | omega | (simp only [AL, List.length_map]; omega))) only [AR, AL, ifT, ifF, take_all, List.length_cons, List.length_nil, Int.reduceToNat, Int.reducePow, Nat.reducePow]) | (refine wk_intro (by kernel_rfl) ?_) | (refine vf_of (by first | exact o1 | exact hOf) ?_))
theorem pow_len (m : Nat) : (lim (2 ^ m)).length ≤ m + 1 :=
  lim_len_lt (Nat.lt_of_lt_of_le (Nat.pow_lt_pow_right (by omega) (Nat.lt_succ_self m)) (Nat.pow_le_pow_left (by decide) (m + 1)))
theorem gam2_size {n : Nat} (h : n ≤ 1024) : szR (gam2 n) 1024 := by
  unfold gam2
  split
  · have h1 := prodN_len (a := 2) (b := 1) (c := n / 2 - 2) (fun i hi => by omega)
    refine ⟨?_, ?_⟩
    · show (lim ((prodN 2 1 (n / 2 - 2) : Nat) : Int).natAbs).length ≤ _
      rw [Int.natAbs_natCast]; omega
    · show (lim 1).length ≤ _
      have := lim_len1
      omega
  · have h1 := prodN_len (a := 3) (b := 2) (c := (n - 3) / 2) (fun i hi => by omega)
    have h2 := pow_len (n / 2)
    exact szR_mk (s := false) (by omega) (by omega) (by omega)
theorem gam_half (n : Nat) (h1 : 1 ≤ n) (h : n ≤ 1024) : Go.Ev.Fn CX 249 [.int .i64 (n : Int)] (rv (gam2 n)) := by
  have ha := and_one64 (a := n) (by omega)
  have hd : ((n : Int)).tdiv 2 = ((n / 2 : Nat) : Int) := rfl
  by_cases h0 : n % 2 = 0
  · have hr := gam_run 2 1 (n / 2 - 2) ((n / 2 - 1 : Nat) : Int) (by omega) (by omega) (by omega) (by omega) (by omega) (by omega) (by omega) (by omega) (by omega)
    have hl := prodN_len (a := 2) (b := 1) (c := n / 2 - 2) (fun i hi => by omega)
    have hw := gam_whole (prodN 2 1 (n / 2 - 2)) (by omega)
    rw [show gam2 n = ((prodN 2 1 (n / 2 - 2) : Nat) : Rat) from if_pos h0]
    rw [h0] at ha
    refine Go.Ev.Fn.intro (fn := Tryz.f249) (body := (Tryz.f249).body.get!) (by kernel_rfl) (by kernel_rfl) (by kernel_rfl) (fun _ => rfl) (Nat.le_of_ble_eq_true (by kernel_rfl)) ?_; unfold Tryz.f249; simp only [Option.get!_some]
    repeat (first | (simp only [go_sem, Nat.reduceEqDiff, Nat.reduceAdd, Nat.reduceSub, Nat.reduceMul, Nat.reduceLeDiff, Nat.reduceLT, reduceIte, reduceCtorEq, Nat.succ_ne_zero, elemsC, Int.reduceToNat, Nat.reducePow, ha, hd]) | (simp (disch := (first | omega | (simp only [AL, List.length_map]; omega))) only [AR, AL, ifT, ifF, take_all, List.length_cons, List.length_nil, Int.reduceToNat, Int.reducePow, Nat.reducePow, ha, hd]) | (refine wk_intro (by kernel_rfl) ?_) | (refine vf_of (by first | exact hr | exact hw) ?_))
  · have hr := gam_run 3 2 ((n - 3) / 2) ((n : Int) - 2) (by omega) (by omega) (by omega) (by omega) (by omega) (by omega) (by omega) (by omega) (by omega)
    have hl := prodN_len (a := 3) (b := 2) (c := (n - 3) / 2) (fun i hi => by omega)
    have o1 := nat_Of 1 (by omega)
    have l1 := lim_len1
    have hS := shift_up (lim 1) (n / 2) (okL_lim _) (by omega) ((n / 2 : Nat) : Int) rfl (by omega)
    rw [wth_lim, Nat.one_mul] at hS
    have hp := pow_len (n / 2)
    have hOf := rat_OfL (s := false) (n := prodN 3 2 ((n - 3) / 2)) (d := 2 ^ (n / 2)) (by omega) (by omega)
    rw [show gam2 n = mkRat (prodN 3 2 ((n - 3) / 2) : Nat) (2 ^ (n / 2)) from if_neg h0]
    have h01 : n % 2 = 1 := by omega
    rw [h01] at ha
    refine Go.Ev.Fn.intro (fn := Tryz.f249) (body := (Tryz.f249).body.get!) (by kernel_rfl) (by kernel_rfl) (by kernel_rfl) (fun _ => rfl) (Nat.le_of_ble_eq_true (by kernel_rfl)) ?_; unfold Tryz.f249; simp only [Option.get!_some]
    repeat (first | (simp only [go_sem, Nat.reduceEqDiff, Nat.reduceAdd, Nat.reduceSub, Nat.reduceMul, Nat.reduceLeDiff, Nat.reduceLT, reduceIte, reduceCtorEq, Nat.succ_ne_zero, elemsC, Int.reduceToNat, Nat.reducePow, ha, hd]) | (simp (disch := (first | omega | (simp only [AL, List.length_map]; omega))) only [AR, AL, ifT, ifF, take_all, List.length_cons, List.length_nil, Int.reduceToNat, Int.reducePow, Nat.reducePow, ha, hd]) | (refine wk_intro (by kernel_rfl) ?_) | (refine vf_of (by first | exact hr | exact o1 | exact hS | exact hOf) ?_))
    rfl
end Go.Proofs.YtecjelnpmcnbaaaGreat
namespace Go.Proofs.YtecjelnpmcnbaaaGreat
open Go.Ev
end Go.Proofs.YtecjelnpmcnbaaaGreat
namespace Go.Proofs.YtecjelnpmcnbaaaGreat
open Go.Ev
def RowL (s : St) (t d v : Nat) : Prop := s.tmp t = .sv (natV (lim v)) ∨ (v = 1 ∧ s.tmp t = .ref d 0 1 0 1 ∧ s.obj d 0 = some [.int .u32 1])
end Go.Proofs.YtecjelnpmcnbaaaGreat
namespace Go.Proofs.YtecjelnpmcnbaaaGreat
open Go.Ev
theorem and_two (a b : Nat) : (a &&& b) % 2 = a % 2 * (b % 2) := by
  have h := Nat.and_mod_two_pow (a := a) (b := b) (n := 1)
  rw [Nat.pow_one] at h
  rw [h]
  rcases Nat.mod_two_eq_zero_or_one a with ha | ha <;> rcases Nat.mod_two_eq_zero_or_one b with hb | hb <;> rw [ha, hb] <;> rfl
theorem beta2_size {a b : Nat} (ha : a ≤ 512) (hb : b ≤ 512) : szR (beta2 a b) 3072 := by
  have z1 := gam2_size (n := a) (by omega)
  have z2 := gam2_size (n := b) (by omega)
  have z3 := gam2_size (n := a + b) (by omega)
  exact szR_div (szR_mul z1 z2 (by omega)) z3 (by omega) (by omega)
theorem gam_Beta (a b : Nat) (ha : 1 ≤ a) (ha2 : a ≤ 256) (hb : 1 ≤ b) (hb2 : b ≤ 256) : Go.Ev.Fn CX 243 [.int .i64 (a : Int), .int .i64 (b : Int)] (.tup [rv (beta2 a b), .int .i64 (a % 2 * (b % 2) : Nat), .bool true]) := by
  have g1 := gam_half a ha (by omega)
  have g2 := gam_half b hb (by omega)
  have g3 := gam_half (a + b) (by omega) (by omega)
  have z1 := gam2_size (n := a) (by omega)
  have z2 := gam2_size (n := b) (by omega)
  have z3 := gam2_size (n := a + b) (by omega)
  have m1 := rat_Mul (RatA_rv z1) (RatA_rv z2) (by omega) (by omega) (by omega)
  have d1 := rat_Div (RatA_rv (szR_mul z1 z2 (by omega))) (RatA_rv z3) (by omega) (by omega) (by omega)
  rw [decide_eq_true (gam2_pos (n := a + b)), show gam2 a * gam2 b / gam2 (a + b) = beta2 a b from rfl] at d1
  have hb1 := b_and64i (a := a) (b := b) (by omega) (by omega)
  have hle : a &&& b ≤ a := Nat.and_le_left
  have hb2 := and_one64 (a := a &&& b) (by omega)
  rw [and_two] at hb2
  refine Go.Ev.Fn.intro (fn := Tryz.f243) (body := (Tryz.f243).body.get!) (by kernel_rfl) (by kernel_rfl) (by kernel_rfl) (fun _ => rfl) (Nat.le_of_ble_eq_true (by kernel_rfl)) ?_; unfold Tryz.f243; simp only [Option.get!_some]
  repeat (first | (simp only [go_sem, Nat.reduceEqDiff, Nat.reduceAdd, Nat.reduceSub, Nat.reduceMul, Nat.reduceLeDiff, Nat.reduceLT, reduceIte, reduceCtorEq, Nat.succ_ne_zero, elemsC, Int.reduceToNat, Nat.reducePow, hb1, hb2]) | (simp (disch := (first | omega | (simp only [AL, List.length_map]; omega))) only [AR, AL, ifT, ifF, take_all, List.length_cons, List.length_nil, Int.reduceToNat, Int.reducePow, Nat.reducePow, hb1, hb2]) | (refine wk_intro (by kernel_rfl) ?_) | (refine vf_of (by first | exact g1 | exact g2 | exact m1 | exact g3 | exact d1) ?_))
end Go.Proofs.YtecjelnpmcnbaaaGreat
namespace Go.Proofs.YtecjelnpmcnbaaaGreat
open Go.Ev
abbrev intV (z : Int) : SV := .agg [.bool (decide (z < 0)), natV (lim z.natAbs)]
abbrev ivV (a b : Int) : SV := .agg [.bool (decide (a < 0)), natV (lim a.natAbs), .bool (decide (b < 0)), natV (lim b.natAbs)]
theorem lim_ne {n : Nat} : decide (0 < (lim n).length) = decide (n ≠ 0) := by
  by_cases h : n = 0
  · subst h; rw [lim_zero]; rfl
  · rw [decide_eq_true (lim_pos h), decide_eq_true h]
theorem ref4_Whole (n : Int) (h : -9223372036854775808 < n ∧ n < 9223372036854775808) : Go.Ev.Fn CX 177 [.int .i64 n] (intV n) := by
  by_cases h0 : n < 0
  · obtain ⟨m, rfl⟩ : ∃ m : Nat, n = -(m : Int) := ⟨n.natAbs, by omega⟩
    have o := ref1_Of m (by omega)
    rw [show intV (-(m : Int)) = .agg [.bool true, natV (lim m)] by show SV.agg [.bool (decide (-(m : Int) < 0)), natV (lim (-(m : Int)).natAbs)] = _; rw [decide_eq_true h0, Int.natAbs_neg, Int.natAbs_natCast]]
    have e0 : 0 - -(m : Int) = (m : Int) := by omega
    refine Go.Ev.Fn.intro (fn := Tryz.f177) (body := (Tryz.f177).body.get!) (by kernel_rfl) (by kernel_rfl) (by kernel_rfl) (fun _ => rfl) (Nat.le_of_ble_eq_true (by kernel_rfl)) ?_; unfold Tryz.f177; simp only [Option.get!_some]
    repeat (first | (simp only [go_sem, Nat.reduceEqDiff, Nat.reduceAdd, Nat.reduceSub, Nat.reduceMul, Nat.reduceLeDiff, Nat.reduceLT, reduceIte, reduceCtorEq, Nat.succ_ne_zero, elemsC, Int.reduceToNat, Nat.reducePow, e0]) | (simp (disch := (first | omega | (simp only [AL, List.length_map]; omega))) only [AR, AL, ifT, ifF, take_all, List.length_cons, List.length_nil, Int.reduceToNat, Int.reducePow, Nat.reducePow, e0]) | (refine wk_intro (by kernel_rfl) ?_) | (refine vf_of (by first | exact o) ?_))
  · obtain ⟨m, rfl⟩ : ∃ m : Nat, n = (m : Int) := ⟨n.natAbs, by omega⟩
    have o := ref1_Of m (by omega)
    rw [show intV (m : Int) = .agg [.bool false, natV (lim m)] by show SV.agg [.bool (decide ((m : Int) < 0)), natV (lim (m : Int).natAbs)] = _; rw [decide_eq_false h0, Int.natAbs_natCast]]
    refine Go.Ev.Fn.intro (fn := Tryz.f177) (body := (Tryz.f177).body.get!) (by kernel_rfl) (by kernel_rfl) (by kernel_rfl) (fun _ => rfl) (Nat.le_of_ble_eq_true (by kernel_rfl)) ?_; unfold Tryz.f177; simp only [Option.get!_some]
    repeat (first | (simp only [go_sem, Nat.reduceEqDiff, Nat.reduceAdd, Nat.reduceSub, Nat.reduceMul, Nat.reduceLeDiff, Nat.reduceLT, reduceIte, reduceCtorEq, Nat.succ_ne_zero, elemsC, Int.reduceToNat, Nat.reducePow]) | (simp (disch := (first | omega | (simp only [AL, List.length_map]; omega))) only [AR, AL, ifT, ifF, take_all, List.length_cons, List.length_nil, Int.reduceToNat, Int.reducePow, Nat.reducePow]) | (refine wk_intro (by kernel_rfl) ?_) | (refine vf_of (by first | exact o) ?_))
theorem ref4_Opp (z : Int) (h : (lim z.natAbs).length ≤ 1000000) : Go.Ev.Fn CX 144 [intV z] (intV (-z)) := by
  have e : intV (-z) = .agg [.bool (!decide (z < 0) && decide (0 < (lim z.natAbs).length)), natV (lim z.natAbs)] := by
    show SV.agg [.bool (decide (-z < 0)), natV (lim (-z).natAbs)] = _
    rw [lim_ne, Int.natAbs_neg]
    by_cases h1 : z < 0
    · rw [decide_eq_true h1, decide_eq_false (by omega)]; rfl
    · by_cases h2 : z = 0
      · rw [decide_eq_false h1, decide_eq_false (by omega), decide_eq_false (by omega)]; rfl
      · rw [decide_eq_false h1, decide_eq_true (by omega), decide_eq_true (by omega)]; rfl
  rw [e]
  by_cases h1 : z < 0
  · rw [decide_eq_true h1]
    refine Go.Ev.Fn.intro (fn := Tryz.f144) (body := (Tryz.f144).body.get!) (by kernel_rfl) (by kernel_rfl) (by kernel_rfl) (fun _ => rfl) (Nat.le_of_ble_eq_true (by kernel_rfl)) ?_; unfold Tryz.f144; simp only [Option.get!_some]
    repeat (first | (simp only [go_sem, Nat.reduceEqDiff, Nat.reduceAdd, Nat.reduceSub, Nat.reduceMul, Nat.reduceLeDiff, Nat.reduceLT, reduceIte, reduceCtorEq, Nat.succ_ne_zero, elemsC, Int.reduceToNat, Nat.reducePow, Bool.not_true, Bool.not_false, Bool.false_and, Bool.true_and]) | (simp (disch := (first | omega | (simp only [AL, List.length_map]; omega))) only [AR, AL, ifT, ifF, take_all, List.length_cons, List.length_nil, Int.reduceToNat, Int.reducePow, Nat.reducePow, Bool.not_true, Bool.not_false, Bool.false_and, Bool.true_and]) | (refine wk_intro (by kernel_rfl) ?_))
  · rw [decide_eq_false h1]
    refine Go.Ev.Fn.intro (fn := Tryz.f144) (body := (Tryz.f144).body.get!) (by kernel_rfl) (by kernel_rfl) (by kernel_rfl) (fun _ => rfl) (Nat.le_of_ble_eq_true (by kernel_rfl)) ?_; unfold Tryz.f144; simp only [Option.get!_some]
    repeat (first | (simp only [go_sem, Nat.reduceEqDiff, Nat.reduceAdd, Nat.reduceSub, Nat.reduceMul, Nat.reduceLeDiff, Nat.reduceLT, reduceIte, reduceCtorEq, Nat.succ_ne_zero, elemsC, Int.reduceToNat, Nat.reducePow, Bool.not_true, Bool.not_false, Bool.false_and, Bool.true_and]) | (simp (disch := (first | omega | (simp only [AL, List.length_map]; omega))) only [AR, AL, ifT, ifF, take_all, List.length_cons, List.length_nil, Int.reduceToNat, Int.reducePow, Nat.reducePow, Bool.not_true, Bool.not_false, Bool.false_and, Bool.true_and]) | (refine wk_intro (by kernel_rfl) ?_))
    rw [show decide (((lim z.natAbs).length : Int) > 0) = decide (0 < (lim z.natAbs).length) from decide_eq_decide.2 (by omega)]
end Go.Proofs.YtecjelnpmcnbaaaGreat
namespace Go.Proofs.YtecjelnpmcnbaaaGreat
open Go.Ev
theorem iv_eq {z : Int} {s : Bool} {n : Nat} (h1 : z.natAbs = n) (h2 : decide (z < 0) = s) : intV z = .agg [.bool s, natV (lim n)] := by subst h1 h2; rfl
theorem lenpos {n : Nat} : decide (((lim n).length : Int) > 0) = decide (n ≠ 0) := by
  rw [← lim_ne]; exact decide_eq_decide.2 (by omega)
theorem ref4_Plus (a b : Int) (ha : (lim a.natAbs).length ≤ 1000000) (hb : (lim b.natAbs).length ≤ 1000000) : Go.Ev.Fn CX 123 [intV a, intV b] (intV (a + b)) := by
  have s1 := ref1_AddL (N := a.natAbs) (D := b.natAbs) (by omega) (by omega)
  have c1 := ref1_CmpL (N := a.natAbs) (D := b.natAbs) (by omega) (by omega)
  have s2 := ref1_SubL (N := a.natAbs) (D := b.natAbs) (by omega) (by omega)
  have s3 := ref1_SubL (N := b.natAbs) (D := a.natAbs) (by omega) (by omega)
  have hbb := beq_bool (decide (a < 0)) (decide (b < 0))
  have l2 := lim_len_mono (Nat.sub_le a.natAbs b.natAbs)
  have l3 := lim_len_mono (Nat.sub_le b.natAbs a.natAbs)
  have hl := fun (n : Nat) => lenpos (n := n)
  have hbt : (true == false) = false := rfl
  have hbf : (false == true) = false := rfl
  by_cases hs : decide (a < 0) = decide (b < 0)
  · rw [decide_eq_true hs] at hbb
    have hs' := decide_eq_decide.1 hs
    rw [iv_eq (z := a + b) (s := decide (a < 0)) (n := a.natAbs + b.natAbs) (by omega) (decide_eq_decide.2 (by omega))]
    clear hs
    refine Go.Ev.Fn.intro (fn := Tryz.f123) (body := (Tryz.f123).body.get!) (by kernel_rfl) (by kernel_rfl) (by kernel_rfl) (fun _ => rfl) (Nat.le_of_ble_eq_true (by kernel_rfl)) ?_; unfold Tryz.f123; simp only [Option.get!_some]
    repeat (first | (simp only [go_sem, Nat.reduceEqDiff, Nat.reduceAdd, Nat.reduceSub, Nat.reduceMul, Nat.reduceLeDiff, Nat.reduceLT, reduceIte, reduceCtorEq, Nat.succ_ne_zero, elemsC, Int.reduceToNat, Nat.reducePow, hbb]) | (simp (disch := (first | omega | (simp only [AL, List.length_map]; omega))) only [AR, AL, ifT, ifF, take_all, List.length_cons, List.length_nil, Int.reduceToNat, Int.reducePow, Nat.reducePow, hbb]) | (refine wk_intro (by kernel_rfl) ?_) | (refine vp_draw (id := 2) (l := [17, 19]) (by kernel_rfl) ?_) | (refine vf_of (by first | exact s1) ?_))
  · rw [decide_eq_false hs] at hbb
    have hs' : ¬ ((a < 0) ↔ (b < 0)) := fun h => hs (decide_eq_decide.2 h)
    by_cases h2 : b.natAbs ≤ a.natAbs
    · have e : decide (cmpN a.natAbs b.natAbs ≥ 0) = true := decide_eq_true (by unfold cmpN; split <;> (try split) <;> omega)
      rw [iv_eq (z := a + b) (s := decide (a < 0) && decide (a.natAbs - b.natAbs ≠ 0)) (n := a.natAbs - b.natAbs) (by omega) (by rw [← Bool.decide_and]; exact decide_eq_decide.2 (by omega))]
      generalize cmpN a.natAbs b.natAbs = c at *
      generalize a.natAbs - b.natAbs = x at *
      clear hs s3 s1
      by_cases h3 : a < 0
      · rw [decide_eq_true h3]
        rw [decide_eq_true h3] at hbb
        refine Go.Ev.Fn.intro (fn := Tryz.f123) (body := (Tryz.f123).body.get!) (by kernel_rfl) (by kernel_rfl) (by kernel_rfl) (fun _ => rfl) (Nat.le_of_ble_eq_true (by kernel_rfl)) ?_; unfold Tryz.f123; simp only [Option.get!_some]
        repeat (first | (simp only [go_sem, Nat.reduceEqDiff, Nat.reduceAdd, Nat.reduceSub, Nat.reduceMul, Nat.reduceLeDiff, Nat.reduceLT, reduceIte, reduceCtorEq, Nat.succ_ne_zero, elemsC, Int.reduceToNat, Nat.reducePow, hbt, hbf, hbb, e, hl, Bool.true_and]) | (simp (disch := (first | omega | (simp only [AL, List.length_map]; omega))) only [AR, AL, ifT, ifF, take_all, List.length_cons, List.length_nil, Int.reduceToNat, Int.reducePow, Nat.reducePow, hbt, hbf, hbb, e, hl, Bool.true_and]) | (refine wk_intro (by kernel_rfl) ?_) | (refine vp_draw (id := 2) (l := [17, 19]) (by kernel_rfl) ?_) | (refine vf_of (by first | exact c1 | exact s2) ?_))
      · rw [decide_eq_false h3]
        rw [decide_eq_false h3] at hbb
        refine Go.Ev.Fn.intro (fn := Tryz.f123) (body := (Tryz.f123).body.get!) (by kernel_rfl) (by kernel_rfl) (by kernel_rfl) (fun _ => rfl) (Nat.le_of_ble_eq_true (by kernel_rfl)) ?_; unfold Tryz.f123; simp only [Option.get!_some]
        repeat (first | (simp only [go_sem, Nat.reduceEqDiff, Nat.reduceAdd, Nat.reduceSub, Nat.reduceMul, Nat.reduceLeDiff, Nat.reduceLT, reduceIte, reduceCtorEq, Nat.succ_ne_zero, elemsC, Int.reduceToNat, Nat.reducePow, hbt, hbf, hbb, e, hl, Bool.false_and]) | (simp (disch := (first | omega | (simp only [AL, List.length_map]; omega))) only [AR, AL, ifT, ifF, take_all, List.length_cons, List.length_nil, Int.reduceToNat, Int.reducePow, Nat.reducePow, hbt, hbf, hbb, e, hl, Bool.false_and]) | (refine wk_intro (by kernel_rfl) ?_) | (refine vp_draw (id := 2) (l := [17, 19]) (by kernel_rfl) ?_) | (refine vf_of (by first | exact c1 | exact s2) ?_))
    · have e : decide (cmpN a.natAbs b.natAbs ≥ 0) = false := decide_eq_false (by unfold cmpN; split <;> (try split) <;> omega)
      rw [iv_eq (z := a + b) (s := decide (b < 0) && decide (b.natAbs - a.natAbs ≠ 0)) (n := b.natAbs - a.natAbs) (by omega) (by rw [← Bool.decide_and]; exact decide_eq_decide.2 (by omega))]
      generalize cmpN a.natAbs b.natAbs = c at *
      generalize b.natAbs - a.natAbs = x at *
      clear hs s2 s1
      by_cases h3 : b < 0
      · rw [decide_eq_true h3]
        rw [decide_eq_true h3] at hbb
        refine Go.Ev.Fn.intro (fn := Tryz.f123) (body := (Tryz.f123).body.get!) (by kernel_rfl) (by kernel_rfl) (by kernel_rfl) (fun _ => rfl) (Nat.le_of_ble_eq_true (by kernel_rfl)) ?_; unfold Tryz.f123; simp only [Option.get!_some]
        repeat (first | (simp only [go_sem, Nat.reduceEqDiff, Nat.reduceAdd, Nat.reduceSub, Nat.reduceMul, Nat.reduceLeDiff, Nat.reduceLT, reduceIte, reduceCtorEq, Nat.succ_ne_zero, elemsC, Int.reduceToNat, Nat.reducePow, hbt, hbf, hbb, e, hl, Bool.true_and]) | (simp (disch := (first | omega | (simp only [AL, List.length_map]; omega))) only [AR, AL, ifT, ifF, take_all, List.length_cons, List.length_nil, Int.reduceToNat, Int.reducePow, Nat.reducePow, hbt, hbf, hbb, e, hl, Bool.true_and]) | (refine wk_intro (by kernel_rfl) ?_) | (refine vp_draw (id := 2) (l := [17, 19]) (by kernel_rfl) ?_) | (refine vf_of (by first | exact c1 | exact s3) ?_))
      · rw [decide_eq_false h3]
        rw [decide_eq_false h3] at hbb
        refine Go.Ev.Fn.intro (fn := Tryz.f123) (body := (Tryz.f123).body.get!) (by kernel_rfl) (by kernel_rfl) (by kernel_rfl) (fun _ => rfl) (Nat.le_of_ble_eq_true (by kernel_rfl)) ?_; unfold Tryz.f123; simp only [Option.get!_some]
        repeat (first | (simp only [go_sem, Nat.reduceEqDiff, Nat.reduceAdd, Nat.reduceSub, Nat.reduceMul, Nat.reduceLeDiff, Nat.reduceLT, reduceIte, reduceCtorEq, Nat.succ_ne_zero, elemsC, Int.reduceToNat, Nat.reducePow, hbt, hbf, hbb, e, hl, Bool.false_and]) | (simp (disch := (first | omega | (simp only [AL, List.length_map]; omega))) only [AR, AL, ifT, ifF, take_all, List.length_cons, List.length_nil, Int.reduceToNat, Int.reducePow, Nat.reducePow, hbt, hbf, hbb, e, hl, Bool.false_and]) | (refine wk_intro (by kernel_rfl) ?_) | (refine vp_draw (id := 2) (l := [17, 19]) (by kernel_rfl) ?_) | (refine vf_of (by first | exact c1 | exact s3) ?_))
theorem ref4_Times (a b : Int) (ha : (lim a.natAbs).length ≤ 100000) (hb : (lim b.natAbs).length ≤ 100000) : Go.Ev.Fn CX 179 [intV a, intV b] (intV (a * b)) := by
  have m := ref1_MulL (N := a.natAbs) (D := b.natAbs) (by omega) (by omega)
  have l := lim_len_mul (a := a.natAbs) (b := b.natAbs)
  have hl := fun (n : Nat) => lenpos (n := n)
  rw [iv_eq (z := a * b) (s := (!(decide (a < 0) == decide (b < 0))) && decide (a.natAbs * b.natAbs ≠ 0)) (n := a.natAbs * b.natAbs) (Int.natAbs_mul a b) ?_]
  · generalize a.natAbs * b.natAbs = x at *
    cases h1 : (!(decide (a < 0) == decide (b < 0)))
    · refine Go.Ev.Fn.intro (fn := Tryz.f179) (body := (Tryz.f179).body.get!) (by kernel_rfl) (by kernel_rfl) (by kernel_rfl) (fun _ => rfl) (Nat.le_of_ble_eq_true (by kernel_rfl)) ?_; unfold Tryz.f179; simp only [Option.get!_some]
      repeat (first | (simp only [go_sem, Nat.reduceEqDiff, Nat.reduceAdd, Nat.reduceSub, Nat.reduceMul, Nat.reduceLeDiff, Nat.reduceLT, reduceIte, reduceCtorEq, Nat.succ_ne_zero, elemsC, Int.reduceToNat, Nat.reducePow, h1, hl, Bool.false_and]) | (simp (disch := (first | omega | (simp only [AL, List.length_map]; omega))) only [AR, AL, ifT, ifF, take_all, List.length_cons, List.length_nil, Int.reduceToNat, Int.reducePow, Nat.reducePow, h1, hl, Bool.false_and]) | (refine wk_intro (by kernel_rfl) ?_) | (refine vf_of (by first | exact m) ?_))
    · refine Go.Ev.Fn.intro (fn := Tryz.f179) (body := (Tryz.f179).body.get!) (by kernel_rfl) (by kernel_rfl) (by kernel_rfl) (fun _ => rfl) (Nat.le_of_ble_eq_true (by kernel_rfl)) ?_; unfold Tryz.f179; simp only [Option.get!_some]
      repeat (first | (simp only [go_sem, Nat.reduceEqDiff, Nat.reduceAdd, Nat.reduceSub, Nat.reduceMul, Nat.reduceLeDiff, Nat.reduceLT, reduceIte, reduceCtorEq, Nat.succ_ne_zero, elemsC, Int.reduceToNat, Nat.reducePow, h1, hl, Bool.true_and]) | (simp (disch := (first | omega | (simp only [AL, List.length_map]; omega))) only [AR, AL, ifT, ifF, take_all, List.length_cons, List.length_nil, Int.reduceToNat, Int.reducePow, Nat.reducePow, h1, hl, Bool.true_and]) | (refine wk_intro (by kernel_rfl) ?_) | (refine vf_of (by first | exact m) ?_))
  · by_cases h0 : a.natAbs * b.natAbs = 0
    · have : a * b = 0 := by
        have := Int.natAbs_mul a b
        omega
      rw [this, h0]
      simp
    · rw [decide_eq_true h0, Bool.and_true]
      have h := sgn_mul a b
      rw [← h]
      exact sgn_neg _ h0
def cmpZ (a b : Int) : Int := if a < b then -1 else if a = b then 0 else 1
theorem ref4_Cmp (a b : Int) (ha : (lim a.natAbs).length ≤ 100000) (hb : (lim b.natAbs).length ≤ 100000) : Go.Ev.Fn CX 175 [intV a, intV b] (.int .i64 (cmpZ a b)) := by
  have o := ref4_Opp b (by omega)
  have s := ref4_Plus a (-b) (by omega) (by rw [Int.natAbs_neg]; omega)
  have l : (lim (a + -b).natAbs).length ≤ 100001 := Nat.le_trans (lim_len_mono (show (a + -b).natAbs ≤ a.natAbs + b.natAbs by omega)) (lim_len_add (L := 100000) ha hb)
  by_cases h0 : a + -b = 0
  · rw [show cmpZ a b = 0 by unfold cmpZ; rw [if_neg (by omega), if_pos (by omega)]]
    have e : (lim (a + -b).natAbs).length = 0 := by rw [h0]; simp [lim_zero]
    refine Go.Ev.Fn.intro (fn := Tryz.f175) (body := (Tryz.f175).body.get!) (by kernel_rfl) (by kernel_rfl) (by kernel_rfl) (fun _ => rfl) (Nat.le_of_ble_eq_true (by kernel_rfl)) ?_; unfold Tryz.f175; simp only [Option.get!_some]
    repeat (first | (simp only [go_sem, Nat.reduceEqDiff, Nat.reduceAdd, Nat.reduceSub, Nat.reduceMul, Nat.reduceLeDiff, Nat.reduceLT, reduceIte, reduceCtorEq, Nat.succ_ne_zero, elemsC, Int.reduceToNat, Nat.reducePow, e]) | (simp (disch := (first | omega | (simp only [AL, List.length_map]; omega))) only [AR, AL, ifT, ifF, take_all, List.length_cons, List.length_nil, Int.reduceToNat, Int.reducePow, Nat.reducePow, e]) | (refine wk_intro (by kernel_rfl) ?_) | (refine vp_draw (id := 1) (l := []) (by kernel_rfl) ?_) | (refine vf_of (by first | exact o | exact s) ?_))
  · have e := lim_pos (N := (a + -b).natAbs) (by omega)
    by_cases h1 : a + -b < 0
    · rw [show cmpZ a b = -1 by unfold cmpZ; rw [if_pos (by omega)]]
      have e2 : decide (a + -b < 0) = true := decide_eq_true h1
      refine Go.Ev.Fn.intro (fn := Tryz.f175) (body := (Tryz.f175).body.get!) (by kernel_rfl) (by kernel_rfl) (by kernel_rfl) (fun _ => rfl) (Nat.le_of_ble_eq_true (by kernel_rfl)) ?_; unfold Tryz.f175; simp only [Option.get!_some]
      repeat (first | (simp only [go_sem, Nat.reduceEqDiff, Nat.reduceAdd, Nat.reduceSub, Nat.reduceMul, Nat.reduceLeDiff, Nat.reduceLT, reduceIte, reduceCtorEq, Nat.succ_ne_zero, elemsC, Int.reduceToNat, Nat.reducePow, e2]) | (simp (disch := (first | omega | (simp only [AL, List.length_map]; omega))) only [AR, AL, ifT, ifF, take_all, List.length_cons, List.length_nil, Int.reduceToNat, Int.reducePow, Nat.reducePow, e2]) | (refine wk_intro (by kernel_rfl) ?_) | (refine vp_draw (id := 1) (l := []) (by kernel_rfl) ?_) | (refine vf_of (by first | exact o | exact s) ?_))
    · rw [show cmpZ a b = 1 by unfold cmpZ; rw [if_neg (by omega), if_neg (by omega)]]
      have e2 : decide (a + -b < 0) = false := decide_eq_false h1
      refine Go.Ev.Fn.intro (fn := Tryz.f175) (body := (Tryz.f175).body.get!) (by kernel_rfl) (by kernel_rfl) (by kernel_rfl) (fun _ => rfl) (Nat.le_of_ble_eq_true (by kernel_rfl)) ?_; unfold Tryz.f175; simp only [Option.get!_some]
      repeat (first | (simp only [go_sem, Nat.reduceEqDiff, Nat.reduceAdd, Nat.reduceSub, Nat.reduceMul, Nat.reduceLeDiff, Nat.reduceLT, reduceIte, reduceCtorEq, Nat.succ_ne_zero, elemsC, Int.reduceToNat, Nat.reducePow, e2]) | (simp (disch := (first | omega | (simp only [AL, List.length_map]; omega))) only [AR, AL, ifT, ifF, take_all, List.length_cons, List.length_nil, Int.reduceToNat, Int.reducePow, Nat.reducePow, e2]) | (refine wk_intro (by kernel_rfl) ?_) | (refine vp_draw (id := 1) (l := []) (by kernel_rfl) ?_) | (refine vf_of (by first | exact o | exact s) ?_))
def cdZ (a : Int) (d : Nat) : Int := -(-a / (d : Int))
theorem fall_eq {a : Int} {d : Nat} (hd : d ≠ 0) : a / (d : Int) = if a < 0 ∧ a.natAbs % d ≠ 0 then -((a.natAbs / d + 1 : Nat) : Int) else sgn (decide (a < 0)) (a.natAbs / d) := by
  by_cases h : a < 0
  · obtain ⟨m, rfl⟩ : ∃ m : Nat, a = -(m : Int) := ⟨a.natAbs, by omega⟩
    rw [Int.natAbs_neg, Int.natAbs_natCast]
    have hm := Nat.div_add_mod m d
    have hlt := Nat.mod_lt m (Nat.pos_of_ne_zero hd)
    by_cases h2 : m % d = 0
    · rw [if_neg (fun g => g.2 h2), decide_eq_true h]
      unfold sgn
      rw [if_pos rfl]
      have : -(m : Int) = (d : Int) * -((m / d : Nat) : Int) := by
        rw [Int.mul_neg, ← Int.natCast_mul]
        omega
      rw [this, Int.mul_ediv_cancel_left _ (by omega)]
    · rw [if_pos ⟨h, h2⟩]
      have e : -(m : Int) = ((d - m % d : Nat) : Int) + (d : Int) * -((m / d + 1 : Nat) : Int) := by
        rw [Int.mul_neg, ← Int.natCast_mul, Nat.mul_add, Nat.mul_one]
        omega
      rw [e, Int.add_mul_ediv_left _ _ (by omega), Int.ediv_eq_zero_of_lt (by omega) (by omega)]
      omega
  · obtain ⟨m, rfl⟩ : ∃ m : Nat, a = (m : Int) := ⟨a.natAbs, by omega⟩
    rw [if_neg (fun g => h g.1), decide_eq_false h, Int.natAbs_natCast]
    unfold sgn
    rw [if_neg (by simp), Int.natCast_ediv]
theorem sgn_iv (s : Bool) (n : Nat) : intV (sgn s n) = .agg [.bool (s && decide (n ≠ 0)), natV (lim n)] := by
  refine iv_eq (sgn_abs s n) ?_
  by_cases h : n = 0
  · subst h; rw [sgn_zero]; simp
  · rw [sgn_neg s h, decide_eq_true h, Bool.and_true]
theorem ref4_Fall (a : Int) (d : Nat) (hd : d ≠ 0) (ha : (lim a.natAbs).length ≤ 1000000) (hb : (lim d).length ≤ 1000000) : Go.Ev.Fn CX 120 [intV a, natV (lim d)] (intV (a / (d : Int))) := by
  have s1 := ref1_DivL (N := a.natAbs) (D := d) hd (by omega) (by omega)
  have l := lim_len_mono (Nat.div_le_self a.natAbs d)
  have l1 := lim_len1
  have s2 := ref1_AddL (N := a.natAbs / d) (D := 1) (by omega) (by omega)
  rw [lim_one] at s2
  have hl := fun (n : Nat) => lenpos (n := n)
  have l4 := lim_len_mono (Nat.le_of_lt (Nat.mod_lt a.natAbs (Nat.pos_of_ne_zero hd)))
  have l5 := lim_len_add (a := a.natAbs / d) (b := 1) (L := 1000000) (by omega) (by omega)
  have e := fall_eq (a := a) hd
  by_cases h : a < 0
  · by_cases h2 : a.natAbs % d = 0
    · rw [if_neg (fun g => g.2 h2)] at e
      rw [e, sgn_iv, decide_eq_true h]
      rw [h2] at s1
      have h0 : decide ((0 : Nat) ≠ 0) = false := rfl
      generalize a.natAbs / d = x at *
      refine Go.Ev.Fn.intro (fn := Tryz.f120) (body := (Tryz.f120).body.get!) (by kernel_rfl) (by kernel_rfl) (by kernel_rfl) (fun _ => rfl) (Nat.le_of_ble_eq_true (by kernel_rfl)) ?_; unfold Tryz.f120; simp only [Option.get!_some]
      repeat (first | (simp only [go_sem, Nat.reduceEqDiff, Nat.reduceAdd, Nat.reduceSub, Nat.reduceMul, Nat.reduceLeDiff, Nat.reduceLT, reduceIte, reduceCtorEq, Nat.succ_ne_zero, elemsC, Int.reduceToNat, Nat.reducePow, hl, h0, Bool.true_and]) | (simp (disch := (first | omega | (simp only [AL, List.length_map]; omega))) only [AR, AL, ifT, ifF, take_all, List.length_cons, List.length_nil, Int.reduceToNat, Int.reducePow, Nat.reducePow, hl, h0, Bool.true_and]) | (refine wk_intro (by kernel_rfl) ?_) | (refine vf_of (by first | exact s1) ?_))
    · rw [if_pos ⟨h, h2⟩] at e
      rw [e, show -((a.natAbs / d + 1 : Nat) : Int) = sgn true (a.natAbs / d + 1) from rfl, sgn_iv]
      have h0 : decide (a.natAbs % d ≠ 0) = true := decide_eq_true h2
      generalize a.natAbs / d + 1 = y at *
      generalize a.natAbs / d = x at *
      generalize a.natAbs % d = r at *
      refine Go.Ev.Fn.intro (fn := Tryz.f120) (body := (Tryz.f120).body.get!) (by kernel_rfl) (by kernel_rfl) (by kernel_rfl) (fun _ => rfl) (Nat.le_of_ble_eq_true (by kernel_rfl)) ?_; unfold Tryz.f120; simp only [Option.get!_some]
      repeat (first | (simp only [go_sem, Nat.reduceEqDiff, Nat.reduceAdd, Nat.reduceSub, Nat.reduceMul, Nat.reduceLeDiff, Nat.reduceLT, reduceIte, reduceCtorEq, Nat.succ_ne_zero, elemsC, Int.reduceToNat, Nat.reducePow, hl, h0, Bool.true_and]) | (simp (disch := (first | omega | (simp only [AL, List.length_map]; omega))) only [AR, AL, ifT, ifF, take_all, List.length_cons, List.length_nil, Int.reduceToNat, Int.reducePow, Nat.reducePow, hl, h0, Bool.true_and]) | (refine wk_intro (by kernel_rfl) ?_) | (refine vf_of (by first | exact s1 | exact s2) ?_))
  · rw [if_neg (fun g => h g.1)] at e
    rw [e, sgn_iv, decide_eq_false h]
    generalize a.natAbs / d = x at *
    refine Go.Ev.Fn.intro (fn := Tryz.f120) (body := (Tryz.f120).body.get!) (by kernel_rfl) (by kernel_rfl) (by kernel_rfl) (fun _ => rfl) (Nat.le_of_ble_eq_true (by kernel_rfl)) ?_; unfold Tryz.f120; simp only [Option.get!_some]
    repeat (first | (simp only [go_sem, Nat.reduceEqDiff, Nat.reduceAdd, Nat.reduceSub, Nat.reduceMul, Nat.reduceLeDiff, Nat.reduceLT, reduceIte, reduceCtorEq, Nat.succ_ne_zero, elemsC, Int.reduceToNat, Nat.reducePow, hl, Bool.false_and]) | (simp (disch := (first | omega | (simp only [AL, List.length_map]; omega))) only [AR, AL, ifT, ifF, take_all, List.length_cons, List.length_nil, Int.reduceToNat, Int.reducePow, Nat.reducePow, hl, Bool.false_and]) | (refine wk_intro (by kernel_rfl) ?_) | (refine vf_of (by first | exact s1) ?_))
theorem abs_div_le (a : Int) {d : Nat} (hd : d ≠ 0) : (a / (d : Int)).natAbs ≤ a.natAbs := by
  rw [fall_eq hd]
  have h1 := Nat.div_le_self a.natAbs d
  split
  · rename_i h
    rw [Int.natAbs_neg, Int.natAbs_natCast]
    have hm := Nat.div_add_mod a.natAbs d
    have : a.natAbs / d ≤ d * (a.natAbs / d) := Nat.le_mul_of_pos_left _ (Nat.pos_of_ne_zero hd)
    omega
  · rw [sgn_abs]; exact h1
theorem ref4_Rise (a : Int) (d : Nat) (hd : d ≠ 0) (ha : (lim a.natAbs).length ≤ 1000000) (hb : (lim d).length ≤ 1000000) : Go.Ev.Fn CX 121 [intV a, natV (lim d)] (intV (cdZ a d)) := by
  have o := ref4_Opp a ha
  have f := ref4_Fall (-a) d hd (by rw [Int.natAbs_neg]; exact ha) hb
  have l := lim_len_mono (abs_div_le (-a) hd)
  rw [Int.natAbs_neg a] at l
  have o2 := ref4_Opp (-a / (d : Int)) (by omega)
  unfold cdZ
  generalize -a / (d : Int) = y at *
  refine Go.Ev.Fn.intro (fn := Tryz.f121) (body := (Tryz.f121).body.get!) (by kernel_rfl) (by kernel_rfl) (by kernel_rfl) (fun _ => rfl) (Nat.le_of_ble_eq_true (by kernel_rfl)) ?_; unfold Tryz.f121; simp only [Option.get!_some]
  repeat (first | (simp only [go_sem, Nat.reduceEqDiff, Nat.reduceAdd, Nat.reduceSub, Nat.reduceMul, Nat.reduceLeDiff, Nat.reduceLT, reduceIte, reduceCtorEq, Nat.succ_ne_zero, elemsC, Int.reduceToNat, Nat.reducePow]) | (simp (disch := (first | omega | (simp only [AL, List.length_map]; omega))) only [AR, AL, ifT, ifF, take_all, List.length_cons, List.length_nil, Int.reduceToNat, Int.reducePow, Nat.reducePow]) | (refine wk_intro (by kernel_rfl) ?_) | (refine vf_of (by first | exact o | exact f | exact o2) ?_))
theorem ref4_pow2 {n : Nat} (h : n ≤ 4096) : Go.Ev.Fn CX 165 [.int .i64 (n : Int)] (natV (lim (2 ^ n))) := by
  have s := ref1_shift_up (lim 1) n (okL_lim _) (by rw [lim_one]; simp) _ rfl h
  rw [wth_lim, Nat.one_mul, lim_one] at s
  refine Go.Ev.Fn.intro (fn := Tryz.f165) (body := (Tryz.f165).body.get!) (by kernel_rfl) (by kernel_rfl) (by kernel_rfl) (fun _ => rfl) (Nat.le_of_ble_eq_true (by kernel_rfl)) ?_; unfold Tryz.f165; simp only [Option.get!_some]
  repeat (first | (simp only [go_sem, Nat.reduceEqDiff, Nat.reduceAdd, Nat.reduceSub, Nat.reduceMul, Nat.reduceLeDiff, Nat.reduceLT, reduceIte, reduceCtorEq, Nat.succ_ne_zero, elemsC, Int.reduceToNat, Nat.reducePow]) | (simp (disch := (first | omega | (simp only [AL, List.length_map]; omega))) only [AR, AL, ifT, ifF, take_all, List.length_cons, List.length_nil, Int.reduceToNat, Int.reducePow, Nat.reducePow]) | (refine wk_intro (by kernel_rfl) ?_) | (refine vf_of (by first | exact s) ?_))
end Go.Proofs.YtecjelnpmcnbaaaGreat
namespace Go.Proofs.YtecjelnpmcnbaaaGreat
open Go.Ev
theorem wth_drop1 (b : List Nat) (i : Nat) : wth (b.drop i) = b.getD i 0 + 4294967296 * wth (b.drop (i + 1)) := by
  by_cases h : i < b.length
  · rw [List.drop_eq_getElem_cons h, List.getD_eq_getElem?_getD, List.getElem?_eq_getElem h]
    rfl
  · rw [List.drop_of_length_le (by omega), List.drop_of_length_le (by omega), getD_ge (by omega)]
    simp [wth]
theorem wth_shr_drop {a : List Nat} (ha : okL a) (m : Nat) : wth a / 2 ^ m = wth (a.drop (m / 32)) / 2 ^ (m % 32) := by
  have hpow : 2 ^ m = 4294967296 ^ (m / 32) * 2 ^ (m % 32) := pow_32 m
  rw [hpow, ← Nat.div_div_eq_div_mul]
  congr 1
  conv => lhs; rw [← List.take_append_drop (m / 32) a, wth_append]
  have h1 := wth_lt (okL_take ha (m / 32))
  rw [List.length_take] at h1 ⊢
  rcases Nat.lt_or_ge a.length (m / 32) with h2 | h2
  · rw [List.drop_of_length_le (by omega)]
    simp only [wth, Nat.mul_zero, Nat.add_zero]
    refine Nat.div_eq_of_lt (Nat.lt_of_lt_of_le h1 (Nat.pow_le_pow_right (by omega) (Nat.min_le_left _ _)))
  · rw [Nat.min_eq_left h2] at h1 ⊢
    rw [Nat.add_comm, Nat.mul_add_div (Nat.pow_pos (by omega)), Nat.div_eq_of_lt h1, Nat.add_zero]
theorem ref1_shift_down (xs : List Nat) (m : Nat) (hx : okL xs) (hl : xs.length ≤ 1073741824) (s : Int) (hs : s = -(m : Int)) (hm : m ≤ 4096) (hm0 : 0 < m) :
    Go.Ev.Fn CX 71 [natV xs, .int .i64 s] (natV (lim (wth xs / 2 ^ m))) := by
  refine Go.Ev.Fn.intro (fn := Tryz.f71) (body := (Tryz.f71).body.get!) (by kernel_rfl) (by kernel_rfl) (by kernel_rfl) (fun _ => rfl) (Nat.le_of_ble_eq_true (by kernel_rfl)) ?_; unfold Tryz.f71; simp only [Option.get!_some]
  have lx := lim_length_le hx
  have e1 : (if (-4096 : Int) > s then (-4096 : Int) else s) = s := if_neg (by omega)
  have e2 : (if (4096 : Int) < s then (4096 : Int) else s) = s := if_neg (by omega)
  have e3 : IntKind.i64.wrap (0 - s) = (m : Int) := by rw [wI64 (by omega)]; omega
  have hs0 : decide (s < 0) = true := by simp; omega
  repeat (first | (simp only [go_sem, Nat.reduceEqDiff, Nat.reduceAdd, Nat.reduceSub, Nat.reduceMul, Nat.reduceLeDiff, Nat.reduceLT, reduceIte, reduceCtorEq, Nat.succ_ne_zero, elemsC, Int.reduceToNat, Nat.reducePow, e1, e2, e3]) | (simp (disch := (first | omega | (simp only [AL, List.length_map]; omega))) only [AR, AL, ifT, ifF, take_all, List.length_cons, List.length_nil, Int.reduceToNat, Int.reducePow, Nat.reducePow, e1, e2, e3]) | (refine wk_intro (by kernel_rfl) ?_) | (refine vp_draw (l := []) (by kernel_rfl) ?_))
  have ha := okL_lim (wth xs)
  refine vf_of (ref1_Trim xs hx (by omega)) ?_; repeat (first | (simp only [go_sem, Nat.reduceEqDiff, Nat.reduceAdd, Nat.reduceSub, Nat.reduceMul, Nat.reduceLeDiff, Nat.reduceLT, reduceIte, reduceCtorEq, Nat.succ_ne_zero, elemsC, Int.reduceToNat, Nat.reducePow, e1, e2, e3, tdiv32, tmod32, hs0]) | (simp (disch := (first | omega | (simp only [AL, List.length_map]; omega))) only [AR, AL, ifT, ifF, take_all, List.length_cons, List.length_nil, Int.reduceToNat, Int.reducePow, Nat.reducePow, e1, e2, e3, tdiv32, tmod32, hs0]) | (refine wk_intro (by kernel_rfl) ?_))
  have va := wth_lim (wth xs)
  generalize lim (wth xs) = a at *
  have hk : m % 32 < 32 := Nat.mod_lt _ (by omega)
  rw [← va, wth_shr_drop ha]
  by_cases hlen : a.length ≤ m / 32
  · rw [List.drop_of_length_le hlen]
    have e0 : lim (wth [] / 2 ^ (m % 32)) = [] := by simp [wth, lim_zero]
    rw [e0]
    repeat (first | (simp only [go_sem, Nat.reduceEqDiff, Nat.reduceAdd, Nat.reduceSub, Nat.reduceMul, Nat.reduceLeDiff, Nat.reduceLT, reduceIte, reduceCtorEq, Nat.succ_ne_zero, elemsC, Int.reduceToNat, Nat.reducePow, e3, tdiv32, tmod32]) | (simp (disch := (first | omega | (simp only [AL, List.length_map]; omega))) only [AR, AL, ifT, ifF, take_all, List.length_cons, List.length_nil, Int.reduceToNat, Int.reducePow, Nat.reducePow, e3, tdiv32, tmod32]) | (refine wk_intro (by kernel_rfl) ?_))
    rfl
  · repeat (first | (simp only [go_sem, Nat.reduceEqDiff, Nat.reduceAdd, Nat.reduceSub, Nat.reduceMul, Nat.reduceLeDiff, Nat.reduceLT, reduceIte, reduceCtorEq, Nat.succ_ne_zero, elemsC, Int.reduceToNat, Nat.reducePow, e3, tdiv32, tmod32]) | (simp (disch := (first | omega | (simp only [AL, List.length_map]; omega))) only [AR, AL, ifT, ifF, take_all, List.length_cons, List.length_nil, Int.reduceToNat, Int.reducePow, Nat.reducePow, e3, tdiv32, tmod32]) | (refine wk_intro (by kernel_rfl) ?_))
    have hbl : (a.drop (m / 32)).length = a.length - m / 32 := List.length_drop ..
    have hb := okL_drop ha (m / 32)
    have hnl : a.length - m / 32 ≤ 1073741824 := by omega
    have hpos : 0 < a.length - m / 32 := by omega
    generalize a.drop (m / 32) = b at *
    generalize a.length - m / 32 = n at *
    subst hbl
    generalize m % 32 = k at *
    clear e1 e2 e3 hs0 va lx hx hl
    refine vp_loop_inv (fun s' => s'.tmp 5 = .sv (natV b) ∧ s'.tmp 7 = .sv (.int .u64 k) ∧
        ∃ c : List Nat, ∃ i : Nat, s'.tmp 9 = .sv (.int .i64 i) ∧ c.length = i ∧ okL c ∧ i ≤ b.length ∧ wth c + 4294967296 ^ i * (wth (b.drop i) / 2 ^ k) = wth b / 2 ^ k ∧
          ((i = 0 ∧ s'.tmp 8 = .nil ∧ s'.gen 56 = 0) ∨ (0 < i ∧ s'.tmp 8 = .ref 56 0 1 0 i ∧ s'.obj 56 0 = some (c.map limb))))
      (fun s => match s.tmp 9 with | .sv (.int _ i) => b.length - i.toNat | _ => 0) ⟨rfl, rfl, [], 0, rfl, rfl, okL_nil, by omega, by simp [wth], .inl ⟨rfl, rfl, rfl⟩⟩ ?_
    rintro s' ⟨i5, i7, c, i, i9, hcl, hc, hi, hv, hcase⟩
    by_cases hend : i = b.length
    · subst hend
      rw [List.drop_of_length_le (Nat.le_refl _), show wth [] / 2 ^ k = 0 by simp [wth], Nat.mul_zero, Nat.add_zero] at hv
      rcases hcase with ⟨h0, i8, -⟩ | ⟨h0, i8, iO⟩
      · omega
      · repeat (first | (simp only [go_sem, Nat.reduceEqDiff, Nat.reduceAdd, Nat.reduceSub, Nat.reduceMul, Nat.reduceLeDiff, Nat.reduceLT, reduceIte, reduceCtorEq, Nat.succ_ne_zero, elemsC, Int.reduceToNat, Nat.reducePow, i5, i7, i9, i8, iO]) | (simp (disch := (first | omega | (simp only [AL, List.length_map]; omega))) only [AR, AL, ifT, ifF, take_all, List.length_cons, List.length_nil, Int.reduceToNat, Int.reducePow, Nat.reducePow, i5, i7, i9, i8, iO]) | (refine wk_intro (by kernel_rfl) ?_) | (refine vp_draw (l := []) (by kernel_rfl) ?_))
        refine vf_of (fn_natV (ref1_Trim c hc (by omega)) hcl) ?_; repeat (first | (simp only [go_sem, Nat.reduceEqDiff, Nat.reduceAdd, Nat.reduceSub, Nat.reduceMul, Nat.reduceLeDiff, Nat.reduceLT, reduceIte, reduceCtorEq, Nat.succ_ne_zero, elemsC, Int.reduceToNat, Nat.reducePow, i5, i7, i9, i8, iO]) | (simp (disch := (first | omega | (simp only [AL, List.length_map]; omega))) only [AR, AL, ifT, ifF, take_all, List.length_cons, List.length_nil, Int.reduceToNat, Int.reducePow, Nat.reducePow, i5, i7, i9, i8, iO]) | (refine wk_intro (by kernel_rfl) ?_) | (refine vp_draw (l := []) (by kernel_rfl) ?_))
        rw [hv]
    · have h1 := getD_lt hb i
      have h2 := getD_lt hb (i + 1)
      have a1 := ref1_at b i hb (by omega) (by omega)
      have a2 := ref1_at b (i + 1) hb (by omega) (by omega)
      rw [show ((i + 1 : Nat) : Int) = (i : Int) + 1 from rfl] at a2
      have d1 := wth_drop1 b i
      have d2 := wth_drop1 b (i + 1)
      obtain ⟨g1, g2⟩ := (shr_limb hk (d1.trans (by rw [d2]))).resolve_right (not_not_intro h1)
      rw [← d2] at g2
      generalize hxx : b.getD i 0 = x at *
      generalize hyy : b.getD (i + 1) 0 = y at *
      have hsplit := Nat.mod_add_div (wth (b.drop i) / 2 ^ k) 4294967296
      rw [g1, g2] at hsplit
      have hv2 : ∀ v, v = (x + 4294967296 * y) / 2 ^ k % 4294967296 → wth (c ++ [v]) + 4294967296 ^ (i + 1) * (wth (b.drop (i + 1)) / 2 ^ k) = wth b / 2 ^ k := by
        rintro v rfl
        rw [wth_snoc, hcl, ← hv, ← hsplit, Nat.pow_succ, Nat.mul_add, Nat.mul_assoc, Nat.add_assoc]
      have hj : bitsSV .or .u64 ((x : Nat) : Int) ((y * 4294967296 : Nat) : Int) = some (.int .u64 ((x + 4294967296 * y : Nat) : Int)) := by
        rw [b_or64 (by omega) (by omega), or_high h1]
      have hw64 : y * 4294967296 % 18446744073709551616 = y * 4294967296 := Nat.mod_eq_of_lt (by omega)
      have hk64 : min k 64 = k := by omega
      have hz : (x + 4294967296 * y) / 2 ^ k % 4294967296 < 4294967296 := Nat.mod_lt _ (by omega)
      clear hsplit g1 g2 d1 d2 hv
      rcases hcase with ⟨h0, i8, ig⟩ | ⟨h0, i8, iO⟩
      · repeat (first | (simp only [go_sem, Nat.reduceEqDiff, Nat.reduceAdd, Nat.reduceSub, Nat.reduceMul, Nat.reduceLeDiff, Nat.reduceLT, reduceIte, reduceCtorEq, Nat.succ_ne_zero, elemsC, Int.reduceToNat, Nat.reducePow, i5, i7, i9, i8, ig]) | (simp (disch := (first | omega | (simp only [AL, List.length_map]; omega))) only [AR, AL, ifT, ifF, take_all, List.length_cons, List.length_nil, Int.reduceToNat, Int.reducePow, Nat.reducePow, i5, i7, i9, i8, ig]) | (refine wk_intro (by kernel_rfl) ?_) | (refine vp_draw (l := []) (by kernel_rfl) ?_))
        repeat (first | (simp only [go_sem, Nat.reduceEqDiff, Nat.reduceAdd, Nat.reduceSub, Nat.reduceMul, Nat.reduceLeDiff, Nat.reduceLT, reduceIte, reduceCtorEq, Nat.succ_ne_zero, elemsC, Int.reduceToNat, Nat.reducePow, i5, i7, i9, i8, ig, hj, hw64, hk64, N0]) | (simp (disch := (first | omega | (simp only [AL, List.length_map]; omega))) only [AR, AL, ifT, ifF, take_all, List.length_cons, List.length_nil, Int.reduceToNat, Int.reducePow, Nat.reducePow, i5, i7, i9, i8, ig, hj, hw64, hk64, N0]) | (refine wk_intro (by kernel_rfl) ?_) | (refine vp_draw (l := []) (by kernel_rfl) ?_) | (refine vf_of (by first | exact a1 | exact a2) ?_))
        subst h0
        obtain rfl := List.length_eq_zero_iff.1 hcl
        exact ⟨⟨[] ++ [(x + 4294967296 * y) / 2 ^ k % 4294967296], 1, rfl, rfl, okL_append.2 ⟨hc, okL_cons.2 ⟨hz, okL_nil⟩⟩, by omega, hv2 _ rfl, .inr ⟨by omega, rfl, rfl⟩⟩, by omega⟩
      · repeat (first | (simp only [go_sem, Nat.reduceEqDiff, Nat.reduceAdd, Nat.reduceSub, Nat.reduceMul, Nat.reduceLeDiff, Nat.reduceLT, reduceIte, reduceCtorEq, Nat.succ_ne_zero, elemsC, Int.reduceToNat, Nat.reducePow, i5, i7, i9, i8, iO]) | (simp (disch := (first | omega | (simp only [AL, List.length_map]; omega))) only [AR, AL, ifT, ifF, take_all, List.length_cons, List.length_nil, Int.reduceToNat, Int.reducePow, Nat.reducePow, i5, i7, i9, i8, iO]) | (refine wk_intro (by kernel_rfl) ?_) | (refine vp_draw (l := []) (by kernel_rfl) ?_))
        repeat (first | (simp only [go_sem, Nat.reduceEqDiff, Nat.reduceAdd, Nat.reduceSub, Nat.reduceMul, Nat.reduceLeDiff, Nat.reduceLT, reduceIte, reduceCtorEq, Nat.succ_ne_zero, elemsC, Int.reduceToNat, Nat.reducePow, i5, i7, i9, i8, iO, hj, hw64, hk64, N0]) | (simp (disch := (first | omega | (simp only [AL, List.length_map]; omega))) only [AR, AL, ifT, ifF, take_all, List.length_cons, List.length_nil, Int.reduceToNat, Int.reducePow, Nat.reducePow, i5, i7, i9, i8, iO, hj, hw64, hk64, N0]) | (refine wk_intro (by kernel_rfl) ?_) | (refine vp_draw (l := []) (by kernel_rfl) ?_) | (refine vf_of (by first | exact a1 | exact a2) ?_))
        exact ⟨⟨c ++ [(x + 4294967296 * y) / 2 ^ k % 4294967296], i + 1, rfl, by rw [List.length_append, hcl]; rfl, okL_append.2 ⟨hc, okL_cons.2 ⟨hz, okL_nil⟩⟩, by omega, hv2 _ rfl, .inr ⟨by omega, rfl, by rw [List.map_append]; rfl⟩⟩, by omega⟩
theorem ref1_shl {N m : Nat} (h : (lim N).length ≤ 1073741824) (hm : m ≤ 4096) : Go.Ev.Fn CX 71 [natV (lim N), .int .i64 (m : Int)] (natV (lim (N * 2 ^ m))) := by
  have := ref1_shift_up (lim N) m (okL_lim _) h _ rfl hm
  rwa [wth_lim] at this
theorem ref1_shr {N m : Nat} (h : (lim N).length ≤ 1073741824) (hm : m ≤ 4096) (h0 : 0 < m) : Go.Ev.Fn CX 71 [natV (lim N), .int .i64 (-(m : Int))] (natV (lim (N / 2 ^ m))) := by
  have := ref1_shift_down (lim N) m (okL_lim _) h _ rfl hm h0
  rwa [wth_lim] at this
end Go.Proofs.YtecjelnpmcnbaaaGreat
namespace Go.Proofs.YtecjelnpmcnbaaaGreat
open Go.Ev
theorem bne_dec (z : Int) : (z != 0) = decide (z ≠ 0) := by by_cases h : z = 0 <;> simp [h]
theorem cmpN_ne {a b : Nat} : (cmpN a b != 0) = decide (a ≠ b) := by
  rw [bne_dec]
  exact decide_eq_decide.2 (by unfold cmpN; split <;> (try split) <;> omega)
theorem ref4_Less (a : Int) (n : Nat) (ha : (lim a.natAbs).length ≤ 100000) (hn : n ≤ 4096) (h0 : 0 < n) : Go.Ev.Fn CX 166 [intV a, .int .i64 (n : Int)] (intV (a / ((2 ^ n : Nat) : Int))) := by
  have hd : 2 ^ n ≠ 0 := Nat.ne_of_gt (Nat.pow_pos (by omega))
  have s1 := ref1_shr (N := a.natAbs) (m := n) (by omega) hn h0
  have l := lim_len_mono (Nat.div_le_self a.natAbs (2 ^ n))
  have l1 := lim_len1
  have s2 := ref1_AddL (N := a.natAbs / 2 ^ n) (D := 1) (by omega) (by omega)
  rw [lim_one] at s2
  have s3 := ref1_shl (N := a.natAbs / 2 ^ n) (m := n) (by omega) hn
  have l3 := lim_len_shl (a := a.natAbs / 2 ^ n) (n := n)
  have c := ref1_CmpL (N := a.natAbs / 2 ^ n * 2 ^ n) (D := a.natAbs) (by omega) (by omega)
  have e2 : (cmpN (a.natAbs / 2 ^ n * 2 ^ n) a.natAbs != 0) = decide (a.natAbs % 2 ^ n ≠ 0) := by
    rw [cmpN_ne]
    refine decide_eq_decide.2 ?_
    have := Nat.div_add_mod a.natAbs (2 ^ n)
    rw [Nat.mul_comm (2 ^ n)] at this
    omega
  have hl := fun (n : Nat) => lenpos (n := n)
  have l5 := lim_len_add (a := a.natAbs / 2 ^ n) (b := 1) (L := 100000) (by omega) (by omega)
  have e := fall_eq (a := a) hd
  have e0 : (0 : Int) - (n : Int) = -(n : Int) := by omega
  generalize 2 ^ n = D at *
  by_cases h : a < 0
  · by_cases h2 : a.natAbs % D = 0
    · rw [if_neg (fun g => g.2 h2)] at e
      rw [e, sgn_iv, decide_eq_true h]
      rw [h2] at e2
      have h0' : decide ((0 : Nat) ≠ 0) = false := rfl
      rw [h0'] at e2
      generalize cmpN (a.natAbs / D * D) a.natAbs = z at *
      generalize a.natAbs / D * D = y at *
      generalize a.natAbs / D = x at *
      refine Go.Ev.Fn.intro (fn := Tryz.f166) (body := (Tryz.f166).body.get!) (by kernel_rfl) (by kernel_rfl) (by kernel_rfl) (fun _ => rfl) (Nat.le_of_ble_eq_true (by kernel_rfl)) ?_; unfold Tryz.f166; simp only [Option.get!_some]
      repeat (first | (simp only [go_sem, Nat.reduceEqDiff, Nat.reduceAdd, Nat.reduceSub, Nat.reduceMul, Nat.reduceLeDiff, Nat.reduceLT, reduceIte, reduceCtorEq, Nat.succ_ne_zero, elemsC, Int.reduceToNat, Nat.reducePow, hl, e0, Bool.true_and, e2]) | (simp (disch := (first | omega | (simp only [AL, List.length_map]; omega))) only [AR, AL, ifT, ifF, take_all, List.length_cons, List.length_nil, Int.reduceToNat, Int.reducePow, Nat.reducePow, hl, e0, Bool.true_and, e2]) | (refine wk_intro (by kernel_rfl) ?_) | (refine vp_draw (id := 2) (l := [5, 16, 18]) (by kernel_rfl) ?_) | (refine vf_of (by first | exact s1 | exact s3 | exact c) ?_))
    · rw [if_pos ⟨h, h2⟩] at e
      rw [e, show -((a.natAbs / D + 1 : Nat) : Int) = sgn true (a.natAbs / D + 1) from rfl, sgn_iv]
      rw [decide_eq_true h2] at e2
      generalize cmpN (a.natAbs / D * D) a.natAbs = z at *
      generalize a.natAbs / D * D = y at *
      generalize a.natAbs / D + 1 = x' at *
      generalize a.natAbs / D = x at *
      refine Go.Ev.Fn.intro (fn := Tryz.f166) (body := (Tryz.f166).body.get!) (by kernel_rfl) (by kernel_rfl) (by kernel_rfl) (fun _ => rfl) (Nat.le_of_ble_eq_true (by kernel_rfl)) ?_; unfold Tryz.f166; simp only [Option.get!_some]
      repeat (first | (simp only [go_sem, Nat.reduceEqDiff, Nat.reduceAdd, Nat.reduceSub, Nat.reduceMul, Nat.reduceLeDiff, Nat.reduceLT, reduceIte, reduceCtorEq, Nat.succ_ne_zero, elemsC, Int.reduceToNat, Nat.reducePow, hl, e0, Bool.true_and, e2]) | (simp (disch := (first | omega | (simp only [AL, List.length_map]; omega))) only [AR, AL, ifT, ifF, take_all, List.length_cons, List.length_nil, Int.reduceToNat, Int.reducePow, Nat.reducePow, hl, e0, Bool.true_and, e2]) | (refine wk_intro (by kernel_rfl) ?_) | (refine vp_draw (id := 2) (l := [5, 16, 18]) (by kernel_rfl) ?_) | (refine vf_of (by first | exact s1 | exact s3 | exact c | exact s2) ?_))
  · rw [if_neg (fun g => h g.1)] at e
    rw [e, sgn_iv, decide_eq_false h]
    generalize a.natAbs / D = x at *
    refine Go.Ev.Fn.intro (fn := Tryz.f166) (body := (Tryz.f166).body.get!) (by kernel_rfl) (by kernel_rfl) (by kernel_rfl) (fun _ => rfl) (Nat.le_of_ble_eq_true (by kernel_rfl)) ?_; unfold Tryz.f166; simp only [Option.get!_some]
    repeat (first | (simp only [go_sem, Nat.reduceEqDiff, Nat.reduceAdd, Nat.reduceSub, Nat.reduceMul, Nat.reduceLeDiff, Nat.reduceLT, reduceIte, reduceCtorEq, Nat.succ_ne_zero, elemsC, Int.reduceToNat, Nat.reducePow, hl, e0, Bool.false_and]) | (simp (disch := (first | omega | (simp only [AL, List.length_map]; omega))) only [AR, AL, ifT, ifF, take_all, List.length_cons, List.length_nil, Int.reduceToNat, Int.reducePow, Nat.reducePow, hl, e0, Bool.false_and]) | (refine wk_intro (by kernel_rfl) ?_) | (refine vp_draw (id := 2) (l := [5, 16, 18]) (by kernel_rfl) ?_) | (refine vf_of (by first | exact s1) ?_))
theorem ref4_More (a : Int) (n : Nat) (ha : (lim a.natAbs).length ≤ 100000) (hn : n ≤ 4096) (h0 : 0 < n) : Go.Ev.Fn CX 167 [intV a, .int .i64 (n : Int)] (intV (cdZ a (2 ^ n))) := by
  have hd : 2 ^ n ≠ 0 := Nat.ne_of_gt (Nat.pow_pos (by omega))
  have o := ref4_Opp a (by omega)
  have f := ref4_Less (-a) n (by rw [Int.natAbs_neg]; exact ha) hn h0
  have l := lim_len_mono (abs_div_le (-a) hd)
  rw [Int.natAbs_neg a] at l
  have o2 := ref4_Opp (-a / ((2 ^ n : Nat) : Int)) (by omega)
  unfold cdZ
  generalize -a / ((2 ^ n : Nat) : Int) = y at *
  refine Go.Ev.Fn.intro (fn := Tryz.f167) (body := (Tryz.f167).body.get!) (by kernel_rfl) (by kernel_rfl) (by kernel_rfl) (fun _ => rfl) (Nat.le_of_ble_eq_true (by kernel_rfl)) ?_; unfold Tryz.f167; simp only [Option.get!_some]
  repeat (first | (simp only [go_sem, Nat.reduceEqDiff, Nat.reduceAdd, Nat.reduceSub, Nat.reduceMul, Nat.reduceLeDiff, Nat.reduceLT, reduceIte, reduceCtorEq, Nat.succ_ne_zero, elemsC, Int.reduceToNat, Nat.reducePow]) | (simp (disch := (first | omega | (simp only [AL, List.length_map]; omega))) only [AR, AL, ifT, ifF, take_all, List.length_cons, List.length_nil, Int.reduceToNat, Int.reducePow, Nat.reducePow]) | (refine wk_intro (by kernel_rfl) ?_) | (refine vf_of (by first | exact o | exact f | exact o2) ?_))
theorem mul_p2_abs (z : Int) (w : Nat) : (z * ((2 ^ w : Nat) : Int)).natAbs = z.natAbs * 2 ^ w := by rw [Int.natAbs_mul, Int.natAbs_natCast]
theorem ref4_Num {v : SV} {q : Rat} {L w : Nat} (hv : RatA v q L) (hL1 : 1 ≤ L) (hL : L ≤ 100000) (hw : w ≤ 4096) : Go.Ev.Fn CX 84 [v, .int .i64 (w : Int)] (ivV (q.num * ((2 ^ w : Nat) : Int) / (q.den : Int)) (cdZ (q.num * ((2 ^ w : Nat) : Int)) q.den)) := by
  have n1 := ref2_Norm hv (by omega)
  obtain ⟨z1, z2⟩ := szR_of hv hL1
  have s1 := ref1_shl (N := q.num.natAbs) (m := w) (by omega) hw
  have l1 := lim_len_shl (a := q.num.natAbs) (n := w)
  have hP : 0 < 2 ^ w := Nat.pow_pos (by omega)
  have ea := mul_p2_abs q.num w
  have en : decide (q.num * ((2 ^ w : Nat) : Int) < 0) = decide (q.num < 0) := decide_eq_decide.2 ⟨fun h => by
      rcases Int.lt_or_le q.num 0 with g | g
      · exact g
      · have := Int.mul_nonneg g (Int.natCast_nonneg (2 ^ w)); omega, fun h => Int.mul_neg_of_neg_of_pos h (by omega)⟩
  have f := ref4_Fall (q.num * ((2 ^ w : Nat) : Int)) q.den q.den_nz (by rw [ea]; omega) (by omega)
  have r := ref4_Rise (q.num * ((2 ^ w : Nat) : Int)) q.den q.den_nz (by rw [ea]; omega) (by omega)
  unfold intV at f r
  rw [ea, en] at f r
  obtain ⟨s, n, d, rfl, -⟩ := hv
  generalize q.num * ((2 ^ w : Nat) : Int) / (q.den : Int) = x at *
  generalize cdZ (q.num * ((2 ^ w : Nat) : Int)) q.den = y at *
  generalize q.num.natAbs * 2 ^ w = u at *
  refine Go.Ev.Fn.intro (fn := Tryz.f84) (body := (Tryz.f84).body.get!) (by kernel_rfl) (by kernel_rfl) (by kernel_rfl) (fun _ => rfl) (Nat.le_of_ble_eq_true (by kernel_rfl)) ?_; unfold Tryz.f84; simp only [Option.get!_some]
  repeat (first | (simp only [go_sem, Nat.reduceEqDiff, Nat.reduceAdd, Nat.reduceSub, Nat.reduceMul, Nat.reduceLeDiff, Nat.reduceLT, reduceIte, reduceCtorEq, Nat.succ_ne_zero, elemsC, Int.reduceToNat, Nat.reducePow]) | (simp (disch := (first | omega | (simp only [AL, List.length_map]; omega))) only [AR, AL, ifT, ifF, take_all, List.length_cons, List.length_nil, Int.reduceToNat, Int.reducePow, Nat.reducePow]) | (refine wk_intro (by kernel_rfl) ?_) | (refine vp_draw (id := 2) (l := [12]) (by kernel_rfl) ?_) | (refine vp_draw (id := 3) (l := [18, 22]) (by kernel_rfl) ?_) | (refine vf_of (by first | exact n1 | exact s1 | exact f | exact r) ?_))
section
variable {a b c d : Int} (ha : (lim a.natAbs).length ≤ 100000) (hb : (lim b.natAbs).length ≤ 100000) (hc : (lim c.natAbs).length ≤ 100000) (hd : (lim d.natAbs).length ≤ 100000)
include ha hb
theorem ref4_Sum (hc : (lim c.natAbs).length ≤ 100000) (hd : (lim d.natAbs).length ≤ 100000) : Go.Ev.Fn CX 86 [ivV a b, ivV c d] (ivV (a + c) (b + d)) := by
  have s1 := ref4_Plus a c (by omega) (by omega)
  have s2 := ref4_Plus b d (by omega) (by omega)
  generalize a + c = x at *
  generalize b + d = y at *
  refine Go.Ev.Fn.intro (fn := Tryz.f86) (body := (Tryz.f86).body.get!) (by kernel_rfl) (by kernel_rfl) (by kernel_rfl) (fun _ => rfl) (Nat.le_of_ble_eq_true (by kernel_rfl)) ?_; unfold Tryz.f86; simp only [Option.get!_some]
  repeat (first | (simp only [go_sem, Nat.reduceEqDiff, Nat.reduceAdd, Nat.reduceSub, Nat.reduceMul, Nat.reduceLeDiff, Nat.reduceLT, reduceIte, reduceCtorEq, Nat.succ_ne_zero, elemsC, Int.reduceToNat, Nat.reducePow]) | (simp (disch := (first | omega | (simp only [AL, List.length_map]; omega))) only [AR, AL, ifT, ifF, take_all, List.length_cons, List.length_nil, Int.reduceToNat, Int.reducePow, Nat.reducePow]) | (refine wk_intro (by kernel_rfl) ?_) | (refine vp_draw (id := 1) (l := []) (by kernel_rfl) ?_) | (refine vf_of (by first | exact s1 | exact s2) ?_))
theorem ref4_Minus (hc : (lim c.natAbs).length ≤ 100000) (hd : (lim d.natAbs).length ≤ 100000) : Go.Ev.Fn CX 100 [ivV a b, ivV c d] (ivV (a - d) (b - c)) := by
  have o1 := ref4_Opp d (by omega)
  have o2 := ref4_Opp c (by omega)
  have s1 := ref4_Plus a (-d) (by omega) (by rw [Int.natAbs_neg]; omega)
  have s2 := ref4_Plus b (-c) (by omega) (by rw [Int.natAbs_neg]; omega)
  rw [← Int.sub_eq_add_neg] at s1 s2
  generalize a - d = x at *
  generalize b - c = y at *
  refine Go.Ev.Fn.intro (fn := Tryz.f100) (body := (Tryz.f100).body.get!) (by kernel_rfl) (by kernel_rfl) (by kernel_rfl) (fun _ => rfl) (Nat.le_of_ble_eq_true (by kernel_rfl)) ?_; unfold Tryz.f100; simp only [Option.get!_some]
  repeat (first | (simp only [go_sem, Nat.reduceEqDiff, Nat.reduceAdd, Nat.reduceSub, Nat.reduceMul, Nat.reduceLeDiff, Nat.reduceLT, reduceIte, reduceCtorEq, Nat.succ_ne_zero, elemsC, Int.reduceToNat, Nat.reducePow]) | (simp (disch := (first | omega | (simp only [AL, List.length_map]; omega))) only [AR, AL, ifT, ifF, take_all, List.length_cons, List.length_nil, Int.reduceToNat, Int.reducePow, Nat.reducePow]) | (refine wk_intro (by kernel_rfl) ?_) | (refine vp_draw (id := 1) (l := []) (by kernel_rfl) ?_) | (refine vf_of (by first | exact o1 | exact s1 | exact o2 | exact s2) ?_))
theorem ref4_Often (n : Int) (hn : -4294967296 < n ∧ n < 4294967296) : Go.Ev.Fn CX 170 [ivV a b, .int .i64 n] (ivV (a * n) (b * n)) := by
  have w := ref4_Whole n (by omega)
  have l : (lim n.natAbs).length ≤ 1 := lim_len_one (by omega)
  have s1 := ref4_Times a n (by omega) (by omega)
  have s2 := ref4_Times b n (by omega) (by omega)
  generalize a * n = x at *
  generalize b * n = y at *
  refine Go.Ev.Fn.intro (fn := Tryz.f170) (body := (Tryz.f170).body.get!) (by kernel_rfl) (by kernel_rfl) (by kernel_rfl) (fun _ => rfl) (Nat.le_of_ble_eq_true (by kernel_rfl)) ?_; unfold Tryz.f170; simp only [Option.get!_some]
  repeat (first | (simp only [go_sem, Nat.reduceEqDiff, Nat.reduceAdd, Nat.reduceSub, Nat.reduceMul, Nat.reduceLeDiff, Nat.reduceLT, reduceIte, reduceCtorEq, Nat.succ_ne_zero, elemsC, Int.reduceToNat, Nat.reducePow]) | (simp (disch := (first | omega | (simp only [AL, List.length_map]; omega))) only [AR, AL, ifT, ifF, take_all, List.length_cons, List.length_nil, Int.reduceToNat, Int.reducePow, Nat.reducePow]) | (refine wk_intro (by kernel_rfl) ?_) | (refine vp_draw (id := 1) (l := []) (by kernel_rfl) ?_) | (refine vf_of (by first | exact w | exact s1 | exact s2) ?_))
theorem ref4_By (n : Nat) (h0 : 0 < n) (hn : n < 9223372036854775808) : Go.Ev.Fn CX 172 [ivV a b, .int .i64 (n : Int)] (ivV (a / (n : Int)) (cdZ b n)) := by
  have o := ref1_Of n (by omega)
  have l : (lim n).length ≤ 2 := lim_len_lt (by omega)
  have f := ref4_Fall a n (by omega) (by omega) (by omega)
  have r := ref4_Rise b n (by omega) (by omega) (by omega)
  generalize a / (n : Int) = x at *
  generalize cdZ b n = y at *
  refine Go.Ev.Fn.intro (fn := Tryz.f172) (body := (Tryz.f172).body.get!) (by kernel_rfl) (by kernel_rfl) (by kernel_rfl) (fun _ => rfl) (Nat.le_of_ble_eq_true (by kernel_rfl)) ?_; unfold Tryz.f172; simp only [Option.get!_some]
  repeat (first | (simp only [go_sem, Nat.reduceEqDiff, Nat.reduceAdd, Nat.reduceSub, Nat.reduceMul, Nat.reduceLeDiff, Nat.reduceLT, reduceIte, reduceCtorEq, Nat.succ_ne_zero, elemsC, Int.reduceToNat, Nat.reducePow]) | (simp (disch := (first | omega | (simp only [AL, List.length_map]; omega))) only [AR, AL, ifT, ifF, take_all, List.length_cons, List.length_nil, Int.reduceToNat, Int.reducePow, Nat.reducePow]) | (refine wk_intro (by kernel_rfl) ?_) | (refine vp_draw (id := 2) (l := [5, 5]) (by kernel_rfl) ?_) | (refine vf_of (by first | exact o | exact f | exact r) ?_))
theorem ref4_Wide (n : Int) (hn : -4294967296 < n ∧ n < 4294967296) : Go.Ev.Fn CX 178 [ivV a b, .int .i64 n] (ivV (a - n) (b + n)) := by
  have w1 := ref4_Whole (-n) (by omega)
  have w2 := ref4_Whole n (by omega)
  have l : (lim n.natAbs).length ≤ 1 := lim_len_one (by omega)
  have s1 := ref4_Plus a (-n) (by omega) (by rw [Int.natAbs_neg]; omega)
  have s2 := ref4_Plus b n (by omega) (by omega)
  rw [← Int.sub_eq_add_neg] at s1
  have e0 : 0 - n = -n := by omega
  generalize a - n = x at *
  generalize b + n = y at *
  refine Go.Ev.Fn.intro (fn := Tryz.f178) (body := (Tryz.f178).body.get!) (by kernel_rfl) (by kernel_rfl) (by kernel_rfl) (fun _ => rfl) (Nat.le_of_ble_eq_true (by kernel_rfl)) ?_; unfold Tryz.f178; simp only [Option.get!_some]
  repeat (first | (simp only [go_sem, Nat.reduceEqDiff, Nat.reduceAdd, Nat.reduceSub, Nat.reduceMul, Nat.reduceLeDiff, Nat.reduceLT, reduceIte, reduceCtorEq, Nat.succ_ne_zero, elemsC, Int.reduceToNat, Nat.reducePow, e0]) | (simp (disch := (first | omega | (simp only [AL, List.length_map]; omega))) only [AR, AL, ifT, ifF, take_all, List.length_cons, List.length_nil, Int.reduceToNat, Int.reducePow, Nat.reducePow, e0]) | (refine wk_intro (by kernel_rfl) ?_) | (refine vp_draw (id := 1) (l := []) (by kernel_rfl) ?_) | (refine vf_of (by first | exact w1 | exact s1 | exact w2 | exact s2) ?_))
theorem ref4_Most : Go.Ev.Fn CX 176 [ivV a b] (intV ((max a.natAbs b.natAbs : Nat) : Int)) := by
  have c := ref4_Cmp (a.natAbs : Int) (b.natAbs : Int) (by rw [Int.natAbs_natCast]; exact ha) (by rw [Int.natAbs_natCast]; exact hb)
  have q : ∀ n : Nat, intV (n : Int) = .agg [.bool false, natV (lim n)] := fun n => iv_eq (Int.natAbs_natCast n) (decide_eq_false (by omega))
  rw [q, q] at c
  rw [q]
  by_cases h : b.natAbs < a.natAbs
  · have e : decide (cmpZ (a.natAbs : Int) (b.natAbs : Int) > 0) = true := decide_eq_true (by unfold cmpZ; rw [if_neg (by omega), if_neg (by omega)]; omega)
    rw [Nat.max_eq_left (by omega)]
    generalize cmpZ (a.natAbs : Int) (b.natAbs : Int) = z at *
    refine Go.Ev.Fn.intro (fn := Tryz.f176) (body := (Tryz.f176).body.get!) (by kernel_rfl) (by kernel_rfl) (by kernel_rfl) (fun _ => rfl) (Nat.le_of_ble_eq_true (by kernel_rfl)) ?_; unfold Tryz.f176; simp only [Option.get!_some]
    repeat (first | (simp only [go_sem, Nat.reduceEqDiff, Nat.reduceAdd, Nat.reduceSub, Nat.reduceMul, Nat.reduceLeDiff, Nat.reduceLT, reduceIte, reduceCtorEq, Nat.succ_ne_zero, elemsC, Int.reduceToNat, Nat.reducePow, e]) | (simp (disch := (first | omega | (simp only [AL, List.length_map]; omega))) only [AR, AL, ifT, ifF, take_all, List.length_cons, List.length_nil, Int.reduceToNat, Int.reducePow, Nat.reducePow, e]) | (refine wk_intro (by kernel_rfl) ?_) | (refine vp_draw (id := 1) (l := []) (by kernel_rfl) ?_) | (refine vf_of (by first | exact c) ?_))
  · have e : decide (cmpZ (a.natAbs : Int) (b.natAbs : Int) > 0) = false := decide_eq_false (by unfold cmpZ; split <;> (try split) <;> omega)
    rw [Nat.max_eq_right (by omega)]
    generalize cmpZ (a.natAbs : Int) (b.natAbs : Int) = z at *
    refine Go.Ev.Fn.intro (fn := Tryz.f176) (body := (Tryz.f176).body.get!) (by kernel_rfl) (by kernel_rfl) (by kernel_rfl) (fun _ => rfl) (Nat.le_of_ble_eq_true (by kernel_rfl)) ?_; unfold Tryz.f176; simp only [Option.get!_some]
    repeat (first | (simp only [go_sem, Nat.reduceEqDiff, Nat.reduceAdd, Nat.reduceSub, Nat.reduceMul, Nat.reduceLeDiff, Nat.reduceLT, reduceIte, reduceCtorEq, Nat.succ_ne_zero, elemsC, Int.reduceToNat, Nat.reducePow, e]) | (simp (disch := (first | omega | (simp only [AL, List.length_map]; omega))) only [AR, AL, ifT, ifF, take_all, List.length_cons, List.length_nil, Int.reduceToNat, Int.reducePow, Nat.reducePow, e]) | (refine wk_intro (by kernel_rfl) ?_) | (refine vp_draw (id := 1) (l := []) (by kernel_rfl) ?_) | (refine vf_of (by first | exact c) ?_))
theorem ref4_Back (n : Nat) (hn : n ≤ 4096) (h0 : 0 < n) : Go.Ev.Fn CX 124 [ivV a b, .int .i64 (n : Int)] (ivV (a / ((2 ^ n : Nat) : Int)) (cdZ b (2 ^ n))) := by
  have s1 := ref4_Less a n ha hn h0
  have s2 := ref4_More b n hb hn h0
  generalize a / ((2 ^ n : Nat) : Int) = x at *
  generalize cdZ b (2 ^ n) = y at *
  refine Go.Ev.Fn.intro (fn := Tryz.f124) (body := (Tryz.f124).body.get!) (by kernel_rfl) (by kernel_rfl) (by kernel_rfl) (fun _ => rfl) (Nat.le_of_ble_eq_true (by kernel_rfl)) ?_; unfold Tryz.f124; simp only [Option.get!_some]
  repeat (first | (simp only [go_sem, Nat.reduceEqDiff, Nat.reduceAdd, Nat.reduceSub, Nat.reduceMul, Nat.reduceLeDiff, Nat.reduceLT, reduceIte, reduceCtorEq, Nat.succ_ne_zero, elemsC, Int.reduceToNat, Nat.reducePow]) | (simp (disch := (first | omega | (simp only [AL, List.length_map]; omega))) only [AR, AL, ifT, ifF, take_all, List.length_cons, List.length_nil, Int.reduceToNat, Int.reducePow, Nat.reducePow]) | (refine wk_intro (by kernel_rfl) ?_) | (refine vp_draw (id := 1) (l := []) (by kernel_rfl) ?_) | (refine vf_of (by first | exact s1 | exact s2) ?_))
omit hb in
theorem ref4_Rat (w : Nat) (hw : w ≤ 4096) : Go.Ev.Fn CX 122 [intV a, .int .i64 (w : Int)] (rv (mkRat a (2 ^ w))) := by
  have p := ref4_pow2 (n := w) hw
  have l := lim_len_shl (a := 1) (n := w)
  have l1 := lim_len1
  rw [Nat.one_mul] at l
  have o := ref2_OfL (s := decide (a < 0)) (n := a.natAbs) (d := 2 ^ w) (by omega) (by omega)
  rw [sgn_self] at o
  generalize 2 ^ w = D at *
  refine Go.Ev.Fn.intro (fn := Tryz.f122) (body := (Tryz.f122).body.get!) (by kernel_rfl) (by kernel_rfl) (by kernel_rfl) (fun _ => rfl) (Nat.le_of_ble_eq_true (by kernel_rfl)) ?_; unfold Tryz.f122; simp only [Option.get!_some]
  repeat (first | (simp only [go_sem, Nat.reduceEqDiff, Nat.reduceAdd, Nat.reduceSub, Nat.reduceMul, Nat.reduceLeDiff, Nat.reduceLT, reduceIte, reduceCtorEq, Nat.succ_ne_zero, elemsC, Int.reduceToNat, Nat.reducePow]) | (simp (disch := (first | omega | (simp only [AL, List.length_map]; omega))) only [AR, AL, ifT, ifF, take_all, List.length_cons, List.length_nil, Int.reduceToNat, Int.reducePow, Nat.reducePow]) | (refine wk_intro (by kernel_rfl) ?_) | (refine vp_draw (id := 1) (l := [8, 10]) (by kernel_rfl) ?_) | (refine vf_of (by first | exact p | exact o) ?_))
theorem ref4_Ball (w : Nat) (hw : w ≤ 4096) : Go.Ev.Fn CX 85 [ivV a b, .int .i64 (w : Int)] (ballR (mkRat a (2 ^ w)) (mkRat b (2 ^ w))) := by
  have s1 := ref4_Rat ha w hw
  have s2 := ref4_Rat hb w hw
  generalize mkRat a (2 ^ w) = x at *
  generalize mkRat b (2 ^ w) = y at *
  refine Go.Ev.Fn.intro (fn := Tryz.f85) (body := (Tryz.f85).body.get!) (by kernel_rfl) (by kernel_rfl) (by kernel_rfl) (fun _ => rfl) (Nat.le_of_ble_eq_true (by kernel_rfl)) ?_; unfold Tryz.f85; simp only [Option.get!_some]
  repeat (first | (simp only [go_sem, Nat.reduceEqDiff, Nat.reduceAdd, Nat.reduceSub, Nat.reduceMul, Nat.reduceLeDiff, Nat.reduceLT, reduceIte, reduceCtorEq, Nat.succ_ne_zero, elemsC, Int.reduceToNat, Nat.reducePow]) | (simp (disch := (first | omega | (simp only [AL, List.length_map]; omega))) only [AR, AL, ifT, ifF, take_all, List.length_cons, List.length_nil, Int.reduceToNat, Int.reducePow, Nat.reducePow]) | (refine wk_intro (by kernel_rfl) ?_) | (refine vp_draw (id := 1) (l := []) (by kernel_rfl) ?_) | (refine vf_of (by first | exact s1 | exact s2) ?_))
end
end Go.Proofs.YtecjelnpmcnbaaaGreat
namespace Go.Proofs.YtecjelnpmcnbaaaGreat
open Go.Ev
theorem blen_iff {x k : Nat} : blen x ≤ k ↔ x < 2 ^ k := by
  unfold blen
  by_cases h : x = 0
  · rw [if_pos h, h]
    have : 0 < 2 ^ k := Nat.pow_pos (by omega)
    omega
  · rw [if_neg h]
    have := Nat.log2_lt (n := x) (k := k) h
    omega
theorem blen_lims (N : Nat) (h : N ≠ 0) : blen N = 32 * ((lim N).length - 1) + blen ((lim N).getD ((lim N).length - 1) 0) := by
  have h0 := lim_pos h
  have ht := trimL_getD (trimL_lim N) h0
  have hw := wth_lim N
  have hok := okL_lim N
  generalize lim N = a at *
  have h1 := wth_at a (w := a.length - 1) (by omega)
  rw [List.drop_of_length_le (by omega), show wth [] = 0 from rfl, Nat.mul_zero, Nat.add_zero, hw] at h1
  have h2 := wth_lt (okL_take hok (a.length - 1))
  rw [List.length_take, Nat.min_eq_left (by omega)] at h2
  rw [show (4294967296 : Nat) = 2 ^ 32 from rfl, ← Nat.pow_mul] at h1 h2
  have hp : 0 < 2 ^ (32 * (a.length - 1)) := Nat.pow_pos (by omega)
  have h3 : N / 2 ^ (32 * (a.length - 1)) = a.getD (a.length - 1) 0 := by
    rw [h1, Nat.add_mul_div_left _ _ hp, Nat.div_eq_of_lt h2, Nat.zero_add]
  have h4 : 2 ^ (32 * (a.length - 1)) ≤ N := by
    have := Nat.mul_le_mul_left (2 ^ (32 * (a.length - 1))) (show 1 ≤ a.getD (a.length - 1) 0 by omega)
    omega
  rw [blen_shift h4, h3]
theorem nat_Bits {N : Nat} (h : (lim N).length ≤ 300000000) : Go.Ev.Fn CX 241 [natV (lim N)] (.int .i64 (blen N : Nat)) := by
  have t := nat_trim (lim N) (okL_lim N) (by omega)
  rw [wth_lim] at t
  by_cases h0 : N = 0
  · subst h0
    have e : (lim 0).length = 0 := by rw [lim_zero]; rfl
    have e2 : blen 0 = 0 := rfl
    rw [e2]
    refine Go.Ev.Fn.intro (fn := Tryz.f241) (body := (Tryz.f241).body.get!) (by kernel_rfl) (by kernel_rfl) (by kernel_rfl) (fun _ => rfl) (Nat.le_of_ble_eq_true (by kernel_rfl)) ?_; unfold Tryz.f241; simp only [Option.get!_some]
    repeat (first | (simp only [go_sem, Nat.reduceEqDiff, Nat.reduceAdd, Nat.reduceSub, Nat.reduceMul, Nat.reduceLeDiff, Nat.reduceLT, reduceIte, reduceCtorEq, Nat.succ_ne_zero, elemsC, Int.reduceToNat, Nat.reducePow]) | (simp (disch := (first | omega | (simp only [AL, List.length_map]; omega))) only [AR, AL, ifT, ifF, take_all, List.length_cons, List.length_nil, Int.reduceToNat, Int.reducePow, Nat.reducePow]) | (refine wk_intro (by kernel_rfl) ?_) | (refine vf_of (by first | exact t) ?_))
    rfl
  · have e := blen_lims N h0
    have hl := lim_pos h0
    have hg := getD_lt (okL_lim N) ((lim N).length - 1)
    have b := bits_Len32 _ hg
    have hb : blen ((lim N).getD ((lim N).length - 1) 0) ≤ 32 := blen_iff.2 hg
    rw [e]
    generalize hgx : (lim N).getD ((lim N).length - 1) 0 = x at *
    generalize hcs : lim N = cs at *
    have hi : (cs.map limb).length = cs.length := List.length_map _
    have hat : ((cs.map limb).drop (cs.length - 1)).head? = some (limb x) := by
      rw [List.head?_drop, List.getElem?_map, List.getElem?_eq_getElem (by omega)]
      rw [List.getD_eq_getElem?_getD, List.getElem?_eq_getElem (by omega)] at hgx
      rw [← hgx]; rfl
    generalize blen x = y at *
    refine Go.Ev.Fn.intro (fn := Tryz.f241) (body := (Tryz.f241).body.get!) (by kernel_rfl) (by kernel_rfl) (by kernel_rfl) (fun _ => rfl) (Nat.le_of_ble_eq_true (by kernel_rfl)) ?_; unfold Tryz.f241; simp only [Option.get!_some]
    repeat (first | (simp only [go_sem, Nat.reduceEqDiff, Nat.reduceAdd, Nat.reduceSub, Nat.reduceMul, Nat.reduceLeDiff, Nat.reduceLT, reduceIte, reduceCtorEq, Nat.succ_ne_zero, elemsC, Int.reduceToNat, Nat.reducePow, hgx]) | (simp (disch := (first | omega | (simp only [AL, List.length_map]; omega))) only [AR, AL, ifT, ifF, take_all, List.length_cons, List.length_nil, Int.reduceToNat, Int.reducePow, Nat.reducePow, hgx]) | (refine wk_intro (by kernel_rfl) ?_) | (refine vf_of (by first | exact t | exact b) ?_))
    congr 1
theorem fix_Small {a b : Nat} (h : (lim b).length ≤ 300000000) {k : Nat} (hk : k ≤ 1000) : Go.Ev.Fn CX 229 [spanV a b, .int .i64 (k : Int)] (.bool (decide (b < 2 ^ k))) := by
  have s := nat_Bits h
  rw [show decide (b < 2 ^ k) = decide (((blen b : Nat) : Int) ≤ (k : Int)) from decide_eq_decide.2 (by rw [← blen_iff]; omega)]
  generalize blen b = x at *
  refine Go.Ev.Fn.intro (fn := Tryz.f229) (body := (Tryz.f229).body.get!) (by kernel_rfl) (by kernel_rfl) (by kernel_rfl) (fun _ => rfl) (Nat.le_of_ble_eq_true (by kernel_rfl)) ?_; unfold Tryz.f229; simp only [Option.get!_some]
  repeat (first | (simp only [go_sem, Nat.reduceEqDiff, Nat.reduceAdd, Nat.reduceSub, Nat.reduceMul, Nat.reduceLeDiff, Nat.reduceLT, reduceIte, reduceCtorEq, Nat.succ_ne_zero, elemsC, Int.reduceToNat, Nat.reducePow]) | (simp (disch := (first | omega | (simp only [AL, List.length_map]; omega))) only [AR, AL, ifT, ifF, take_all, List.length_cons, List.length_nil, Int.reduceToNat, Int.reducePow, Nat.reducePow]) | (refine wk_intro (by kernel_rfl) ?_) | (refine vf_of (by first | exact s) ?_))
end Go.Proofs.YtecjelnpmcnbaaaGreat
namespace Go.Proofs.YtecjelnpmcnbaaaGreat
open Go.Ev
abbrev pwN (q : Rat) (A w : Nat) : Nat × Nat := powGo w 4 A (2 ^ w) (2 ^ w + 1) (unN q w) (unN q w + 1)
theorem unN_len1 {q : Rat} {w : Nat} (h0 : 0 ≤ q) (h1 : q ≤ 1) (hw : w ≤ 900) : (lim (unN q w)).length ≤ 49 ∧ (lim (unN q w + 1)).length ≤ 50 := by
  have h2 : q.num.natAbs ≤ q.den := (unit_num h0 h1).1
  have h3 : unN q w ≤ 2 ^ w := (Nat.div_le_iff_le_mul q.den_pos).2 (by
    have := Nat.mul_le_mul_right (2 ^ w) h2
    have := q.den_pos
    rw [Nat.mul_comm (2 ^ w)]; omega)
  have l1 := lim_len1
  have l := lim_len_p2 (w := w) h3 (by omega)
  have h4 := lim_len_add (a := unN q w) (b := 1) (L := 49) (by omega) (by omega)
  exact ⟨by omega, by omega⟩
theorem incb_power {q : Rat} {A w L : Nat} (hA : A ≤ 15) (hz : szR q L) (hL : L ≤ 300) (hu : (lim (unN q w)).length ≤ 49 ∧ (lim (unN q w + 1)).length ≤ 50) (hw : w ≤ 900) (hw0 : 0 < w) : Go.Ev.Fn CX 242 [.int .i64 (2 * (A : Int)), rv q, .int .i64 (w : Int)] (spanV (pwN q A w).1 (pwN q A w).2) := by
  have r : Go.Ev.Fn CX 228 [rv q, .int .i64 (w : Int)] (spanV (unN q w) (unN q w + 1)) := fix_Rat hz (by omega) (w := w) (by omega)
  obtain ⟨l1, l2⟩ := hu
  have p := fix_Power (a1 := unN q w) (a2 := unN q w + 1) (n := A) (w := w) (F := 4) (by omega) (by omega) (by omega) l2 (by omega) hw0
  have an := and_one64 (a := 2 * A) (by omega)
  rw [show 2 * A % 2 = 0 by omega, show ((2 * A : Nat) : Int) = 2 * (A : Int) by omega] at an
  have td : (2 * (A : Int)).tdiv 2 = (A : Int) := by
    rw [Int.mul_comm]; exact Int.mul_tdiv_cancel _ (by omega)
  have td2 : ((2 * A : Nat) : Int).tdiv 2 = (A : Int) := td
  generalize (pwN q A w).1 = x at *
  generalize (pwN q A w).2 = y at *
  generalize unN q w = u at *
  refine Go.Ev.Fn.intro (fn := Tryz.f242) (body := (Tryz.f242).body.get!) (by kernel_rfl) (by kernel_rfl) (by kernel_rfl) (fun _ => rfl) (Nat.le_of_ble_eq_true (by kernel_rfl)) ?_; unfold Tryz.f242; simp only [Option.get!_some]
  repeat (first | (simp only [go_sem, Nat.reduceEqDiff, Nat.reduceAdd, Nat.reduceSub, Nat.reduceMul, Nat.reduceLeDiff, Nat.reduceLT, reduceIte, reduceCtorEq, Nat.succ_ne_zero, elemsC, Int.reduceToNat, Nat.reducePow, an, td, td2]) | (simp (disch := (first | omega | (simp only [AL, List.length_map]; omega))) only [AR, AL, ifT, ifF, take_all, List.length_cons, List.length_nil, Int.reduceToNat, Int.reducePow, Nat.reducePow, an, td, td2]) | (refine wk_intro (by kernel_rfl) ?_) | (refine vp_draw (id := 4) (l := []) (by kernel_rfl) ?_) | (refine vf_of (by first | exact r | exact p) ?_))
theorem okS_un {q : Rat} {w : Nat} (h0 : 0 ≤ q) (h1 : q ≤ 1) : okS (2 ^ w) (unN q w) (unN q w + 1) 1 := by
  refine ⟨by omega, by omega, ?_⟩
  have h2 : q.num.natAbs ≤ q.den := (unit_num h0 h1).1
  have : unN q w ≤ 2 ^ w := (Nat.div_le_iff_le_mul q.den_pos).2 (by
    have := Nat.mul_le_mul_right (2 ^ w) h2
    have := q.den_pos
    rw [Nat.mul_comm (2 ^ w)]; omega)
  omega
theorem okS_pw {q : Rat} {A w : Nat} (h0 : 0 ≤ q) (h1 : q ≤ 1) (hw : 20 ≤ w) : okS (2 ^ w) (pwN q A w).1 (pwN q A w).2 511 := by
  have hP : 1000000 ≤ 2 ^ w := Nat.le_trans (by decide) (Nat.pow_le_pow_right (n := 2) (by omega) hw)
  exact powGo_ok hP 4 A _ _ _ _ 1 (by decide) ⟨by omega, by omega, by omega⟩ (okS_un h0 h1)
theorem okS_len {a b e w : Nat} (h : okS (2 ^ w) a b e) (he : e ≤ 100000) (hw : w ≤ 900) (hw0 : 20 ≤ w) : (lim a).length ≤ 40 ∧ (lim b).length ≤ 40 := by
  have hP : 1000000 ≤ 2 ^ w := Nat.le_trans (by decide) (Nat.pow_le_pow_right (n := 2) (by omega) hw0)
  have h2 : 2 ^ (w + 1) = 2 ^ w * 2 := Nat.pow_succ _ _
  exact ⟨lim_len_p2 (w := w + 1) (by have := h.1; have := h.2.2; omega) (by omega), lim_len_p2 (w := w + 1) (by have := h.2.2; omega) (by omega)⟩
end Go.Proofs.YtecjelnpmcnbaaaGreat
