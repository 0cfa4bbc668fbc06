/- Part 10 of the proof: the evaluator, contracts of functions and their plain laws (joined by program). No condition. -/
import Derived.Test.YtecjelnpmcnbaaaGreatPart9
set_option linter.unusedVariables false
set_option linter.unusedSimpArgs false
set_option maxRecDepth 100000
namespace Go.Proofs.YtecjelnpmcnbaaaGreat
open Go.Ev
theorem hfHi_nn {a b : Nat} (ha : 1 ≤ a) (ha2 : a ≤ 20) (hb : 1 ≤ b) (hb2 : b ≤ 20) : 0 ≤ hfHi a b := by
  have hh : (1 / 2 : Rat) + 1 / 2 = 1 := by decide +kernel
  have h2 : (0 : Rat) ≤ 1 / 2 := by decide +kernel
  have G := fsG_nn ha hb ha2 hb2
  have F := Rat.mul_nonneg G (Rat.mul_nonneg (rtF_nn a S2_nn) (rtF_nn b S2_nn))
  have s := Rat.mul_le_mul_of_nonneg_left (sR_top (a := a) (b := b) (k := 120) (m := 160) h2 (by rw [hh]; exact Rat.le_refl) (by omega)) F
  have s0 := Rat.mul_nonneg F (sR_nnH (a := a) (b := b) h2 160)
  unfold hfHi
  exact Rat.le_trans s0 s
theorem hi_nn {B p : Nat} : 0 ≤ toldHi B p := by
  unfold toldHi
  have m := mk_p2n (B / 2 ^ (p + 300 - (p + 2)) + 1) (p + 2)
  refine le_by (p2_pos (p + 2)) ?_
  rw [m, Rat.zero_mul]; exact nat_nonneg _
section
variable {x y : Rat} {a b p L : Nat} {v v' : SV}
def BallS (a b p : Nat) (x l h : Rat) : Prop :=
  (x + x ≤ 1 ∧ ∃ A B : Nat, RowS a b (p + 300) x A B ∧ A ≤ B ∧ l = toldLo A p ∧ h = toldHi B p) ∨
  (1 < x + x ∧ ∃ A B : Nat, RowS b a (p + 300) (1 - x) A B ∧ A ≤ B ∧ l = 1 - toldHi B p ∧ h = 1 - toldLo A p)
theorem rows_ab {a b w : Nat} {x : Rat} {A B : Nat} (h : RowS a b w x A B) : A ≤ B := by
  obtain ⟨K, h⟩ := h
  have g := h K (Nat.le_refl _)
  have r := sq_mon (nat_nonneg A) (nat_nonneg B) (Rat.le_trans g.1 g.2)
  exact_mod_cast r
theorem ball_le {l h : Rat} (g : BallS a b p x l h) : l ≤ h := by
  rcases g with ⟨-, A, B, -, k, rfl, rfl⟩ | ⟨-, A, B, -, k, rfl, rfl⟩
  · exact told_le k
  · have := told_le (p := p) k
    grind
end
end Go.Proofs.YtecjelnpmcnbaaaGreat
namespace Go.Proofs.YtecjelnpmcnbaaaGreat
open Go.Ev
def topOk (a b : Nat) : Bool := match hfGo a b 120 0 1 1 1 with
  | (n, d, s) => Nat.ble (s + 3 * n) (2048 * d)
theorem top_ok1 : (List.range 20).all (fun j => topOk 1 (1 + j)) = true := by decide +kernel
theorem top_ok2 : (List.range 20).all (fun j => topOk 2 (1 + j)) = true := by decide +kernel
theorem top_ok3 : (List.range 20).all (fun j => topOk 3 (1 + j)) = true := by decide +kernel
theorem top_ok4 : (List.range 20).all (fun j => topOk 4 (1 + j)) = true := by decide +kernel
theorem top_ok5 : (List.range 20).all (fun j => topOk 5 (1 + j)) = true := by decide +kernel
theorem top_ok6 : (List.range 20).all (fun j => topOk 6 (1 + j)) = true := by decide +kernel
theorem top_ok7 : (List.range 20).all (fun j => topOk 7 (1 + j)) = true := by decide +kernel
theorem top_ok8 : (List.range 20).all (fun j => topOk 8 (1 + j)) = true := by decide +kernel
theorem top_ok9 : (List.range 20).all (fun j => topOk 9 (1 + j)) = true := by decide +kernel
theorem top_ok10 : (List.range 20).all (fun j => topOk 10 (1 + j)) = true := by decide +kernel
theorem top_ok11 : (List.range 20).all (fun j => topOk 11 (1 + j)) = true := by decide +kernel
theorem top_ok12 : (List.range 20).all (fun j => topOk 12 (1 + j)) = true := by decide +kernel
theorem top_ok13 : (List.range 20).all (fun j => topOk 13 (1 + j)) = true := by decide +kernel
theorem top_ok14 : (List.range 20).all (fun j => topOk 14 (1 + j)) = true := by decide +kernel
theorem top_ok15 : (List.range 20).all (fun j => topOk 15 (1 + j)) = true := by decide +kernel
theorem top_ok16 : (List.range 20).all (fun j => topOk 16 (1 + j)) = true := by decide +kernel
theorem top_ok17 : (List.range 20).all (fun j => topOk 17 (1 + j)) = true := by decide +kernel
theorem top_ok18 : (List.range 20).all (fun j => topOk 18 (1 + j)) = true := by decide +kernel
theorem top_ok19 : (List.range 20).all (fun j => topOk 19 (1 + j)) = true := by decide +kernel
theorem top_ok20 : (List.range 20).all (fun j => topOk 20 (1 + j)) = true := by decide +kernel
theorem top_all {a b : Nat} (h1 : 1 ≤ a) (h2 : a ≤ 20) (h3 : 1 ≤ b) (h4 : b ≤ 20) : topOk a b = true := by
  have g : ∀ c, (List.range 20).all (fun j => topOk c (1 + j)) = true → topOk c b = true := fun c h => by
    have := List.all_eq_true.1 h (b - 1) (List.mem_range.2 (by omega))
    rwa [show 1 + (b - 1) = b by omega] at this
  have hc : a = 1 ∨ a = 2 ∨ a = 3 ∨ a = 4 ∨ a = 5 ∨ a = 6 ∨ a = 7 ∨ a = 8 ∨ a = 9 ∨ a = 10 ∨ a = 11 ∨ a = 12 ∨ a = 13 ∨ a = 14 ∨ a = 15 ∨ a = 16 ∨ a = 17 ∨ a = 18 ∨ a = 19 ∨ a = 20 := by omega
  rcases hc with rfl | rfl | rfl | rfl | rfl | rfl | rfl | rfl | rfl | rfl | rfl | rfl | rfl | rfl | rfl | rfl | rfl | rfl | rfl | rfl
  · exact g 1 top_ok1
  · exact g 2 top_ok2
  · exact g 3 top_ok3
  · exact g 4 top_ok4
  · exact g 5 top_ok5
  · exact g 6 top_ok6
  · exact g 7 top_ok7
  · exact g 8 top_ok8
  · exact g 9 top_ok9
  · exact g 10 top_ok10
  · exact g 11 top_ok11
  · exact g 12 top_ok12
  · exact g 13 top_ok13
  · exact g 14 top_ok14
  · exact g 15 top_ok15
  · exact g 16 top_ok16
  · exact g 17 top_ok17
  · exact g 18 top_ok18
  · exact g 19 top_ok19
  · exact g 20 top_ok20
section
variable {a b k : Nat}
theorem rR_monoX {x y : Rat} (h0 : 0 ≤ x) (h : x ≤ y) (k : Nat) : rR x a b k ≤ rR y a b k := by
  induction k with
  | zero => exact Rat.le_refl
  | succ k ih =>
    have M : (0 : Rat) < ((a + 2 + 2 * k : Nat) : Rat) := by exact_mod_cast (show 0 < a + 2 + 2 * k by omega)
    refine le_by M ?_
    rw [rR_step, rR_step]
    have r0 := rR_nn (x := x) (a := a) (b := b) h0 k
    have n0 := nat_nonneg (a + b + 2 * k)
    have m := mul_both ih h (Rat.le_trans r0 ih) h0
    exact Rat.mul_le_mul_of_nonneg_right m n0
theorem sR_monoX {x y : Rat} (h0 : 0 ≤ x) (h : x ≤ y) (k : Nat) : sR x a b k ≤ sR y a b k := by
  induction k with
  | zero => exact Rat.le_refl
  | succ k ih =>
    have := rR_monoX (a := a) (b := b) h0 h (k + 1)
    show sR x a b k + _ ≤ sR y a b k + _
    grind
theorem sR_most {z : Rat} (ha : 1 ≤ a) (ha2 : a ≤ 20) (hb : 1 ≤ b) (hb2 : b ≤ 20) (h0 : 0 ≤ z) (h : z + z ≤ 1) (k : Nat) : sR z a b k ≤ 2048 := by
  have hh : (1 / 2 : Rat) + 1 / 2 = 1 := by decide +kernel
  have h2 : (0 : Rat) ≤ 1 / 2 := by decide +kernel
  have z2 : z ≤ 1 / 2 := by generalize (1 / 2 : Rat) = hf at *; grind
  have m1 := sR_monoX (a := a) (b := b) h0 z2 k
  have m2 := sR_top (a := a) (b := b) (k := 120) (m := k) h2 (by rw [hh]; exact Rat.le_refl) (by omega)
  obtain ⟨g1, g2, g3⟩ := hfGo_is a b 120 0 1 1 1 (show (1 : Rat) * ((1 : Nat) : Rat) = ((1 : Nat) : Rat) by decide +kernel) (show (1 : Rat) * ((1 : Nat) : Rat) = ((1 : Nat) : Rat) by decide +kernel) (by decide)
  have t := top_all ha ha2 hb hb2
  rw [Nat.zero_add] at g1 g2
  unfold topOk at t
  generalize hfGo a b 120 0 1 1 1 = g at *
  obtain ⟨n, d, s⟩ := g
  have t1 : s + 3 * n ≤ 2048 * d := Nat.le_of_ble_eq_true t
  have t2 : ((s + 3 * n : Nat) : Rat) ≤ ((2048 * d : Nat) : Rat) := by exact_mod_cast t1
  have c1 : ((s + 3 * n : Nat) : Rat) = (s : Rat) + 3 * (n : Rat) := by exact_mod_cast rfl
  have c2 : ((2048 * d : Nat) : Rat) = 2048 * (d : Rat) := by exact_mod_cast rfl
  have d0 : (0 : Rat) < (d : Rat) := by exact_mod_cast g3
  refine Rat.le_trans m1 (Rat.le_trans m2 (le_by d0 ?_))
  have e1 : rR (1 / 2) a b 120 * (d : Rat) = (n : Rat) := g1
  have e2 : sR (1 / 2) a b 120 * (d : Rat) = (s : Rat) := g2
  rw [c1, c2] at t2
  generalize sR (1 / 2) a b 120 = u at *
  generalize rR (1 / 2) a b 120 = v at *
  generalize (n : Rat) = n' at *
  generalize (s : Rat) = s' at *
  generalize (d : Rat) = d' at *
  clear m1 m2
  grind
end
end Go.Proofs.YtecjelnpmcnbaaaGreat
namespace Go.Proofs.YtecjelnpmcnbaaaGreat
open Go.Ev
def Lo1 (a b : Nat) (x l : Rat) : Prop := l ≤ 0 ∨ ∃ K : Nat, ∀ m, K ≤ m → l * l ≤ fsC a b * fsC a b * shG a b m x
def Hi1 (a b : Nat) (x h : Rat) : Prop := 0 ≤ h ∧ ∃ K : Nat, ∀ m, K ≤ m → fsC a b * fsC a b * shG a b m x ≤ h * h
def LoS (a b : Nat) (x l : Rat) : Prop := (x + x ≤ 1 ∧ Lo1 a b x l) ∨ (1 < x + x ∧ Hi1 b a (1 - x) (1 - l))
def HiS (a b : Nat) (x h : Rat) : Prop := (x + x ≤ 1 ∧ Hi1 a b x h) ∨ (1 < x + x ∧ Lo1 b a (1 - x) (1 - h))
section
variable {a b : Nat} {x y l h d c : Rat}
theorem sq_part {l h d : Rat} (hl : 0 ≤ l) (hh : 0 ≤ h) (hd : 0 ≤ d) (hd1 : d ≤ 1) (g : l * l * (2048 + 2 * d) ≤ h * h * 2048) : 4096 * l + l * d ≤ 4096 * h := by
  have k : (4096 * l + l * d) * (4096 * l + l * d) ≤ (4096 * h) * (4096 * h) := by
    have e : (4096 * l + l * d) * (4096 * l + l * d) = l * l * (16777216 + 8192 * d + d * d) := by grind
    have dd : d * d ≤ d := by
      have := Rat.mul_le_mul_of_nonneg_left hd1 hd
      grind
    have m := Rat.mul_le_mul_of_nonneg_left (show 16777216 + 8192 * d + d * d ≤ 16777216 + 16384 * d by grind) (mul_self_nn l)
    rw [e]
    refine Rat.le_trans m ?_
    grind
  exact sq_mon (by have := Rat.mul_nonneg hl hd; grind) (by grind) k
theorem grow1 (ha : 1 ≤ a) (ha2 : a ≤ 20) (hb : 1 ≤ b) (hb2 : b ≤ 20) (h0 : 0 < x) (hxy : x ≤ y) (hy : y + y ≤ 1) (hl : 0 < l) (A : Lo1 a b x l) (B : Hi1 a b y h) : 4096 * l + l * (y - x) ≤ 4096 * h := by
  obtain ⟨B0, K', B⟩ := B
  rcases A with A | ⟨K, A⟩
  · exact absurd A (by grind)
  refine sq_part (by grind) B0 (by grind) (by grind) ?_
  have g := A (max (max K K') 160) (by omega)
  have g' := B (max (max K K') 160) (by omega)
  have m := shG_grow (a := a) (b := b) (k := max (max K K') 160) (M := 2048) ha ha2 hb2 (by omega) h0 hxy hy fun z z0 z1 => sR_most ha ha2 hb hb2 z0 z1 _
  have C : 0 ≤ fsC a b * fsC a b := mul_self_nn _
  have m2 := Rat.mul_le_mul_of_nonneg_left m C
  have g2 := Rat.mul_le_mul_of_nonneg_right g (show 0 ≤ 2048 + 2 * (y - x) by grind)
  generalize shG a b (max (max K K') 160) x = u at *
  generalize shG a b (max (max K K') 160) y = v at *
  generalize fsC a b * fsC a b = w at *
  grind
theorem half1 (ha : 1 ≤ a) (ha2 : a ≤ 20) (hb : 1 ≤ b) (hb2 : b ≤ 20) : Hi1 a b (1 / 2) (hfHi a b) := by
  refine ⟨hfHi_nn ha ha2 hb hb2, 160, fun m hm => ?_⟩
  have hh : (1 / 2 : Rat) + 1 / 2 = 1 := by decide +kernel
  have h2 : (0 : Rat) ≤ 1 / 2 := by decide +kernel
  have e1 : (1 : Rat) - 1 / 2 = 1 / 2 := by decide +kernel
  have t := sh_hi (a := a) (b := b) (k := m) (x := 1 / 2) (sx := S2) (sy := S2) h2 (by decide +kernel) S2_sq.1 (by rw [e1]; exact S2_sq.1)
  rw [fstR_is] at t
  have G := fsG_nn ha hb ha2 hb2
  have F := Rat.mul_nonneg G (Rat.mul_nonneg (rtF_nn a S2_nn) (rtF_nn b S2_nn))
  have s := Rat.mul_le_mul_of_nonneg_left (sR_top (a := a) (b := b) (k := 120) (m := m) h2 (by rw [hh]; exact Rat.le_refl) (by omega)) F
  have s0 := Rat.mul_nonneg F (sR_nnH (a := a) (b := b) h2 m)
  unfold hfHi
  exact Rat.le_trans t (mul_both s s (Rat.le_trans s0 s) s0)
theorem cross (ha : 1 ≤ a) (ha2 : a ≤ 20) (hb : 1 ≤ b) (hb2 : b ≤ 20) (h0 : 0 < x) (hx : x + x ≤ 1) (hl : 0 < l) (A : Lo1 a b x l) : 4096 * l + l * (1 / 2 - x) ≤ 4096 * hfHi a b := by
  have hh : (1 / 2 : Rat) + 1 / 2 = 1 := by decide +kernel
  have H := half1 ha ha2 hb hb2
  generalize (1 / 2 : Rat) = hf at *
  exact grow1 ha ha2 hb hb2 h0 (by grind) (by grind) hl A H
theorem gap (ha : 1 ≤ a) (ha2 : a ≤ 20) (hb : 1 ≤ b) (hb2 : b ≤ 20) (h0 : 0 < x) (hxy : x ≤ y) (hy : y < 1) (hc : 0 < c) (hl : c ≤ l) (hh : h ≤ 1 - c) (A : LoS a b x l) (B : HiS a b y h) :
    (4096 * l + c * (y - x)) * 18014398509481984 ≤ 4096 * h * 18014398509481984 + 1 := by
  have l0 : 0 < l := by grind
  have n0 : 0 < 1 - h := by grind
  have cd := fun (z : Rat) (hz : 0 ≤ z) => Rat.mul_le_mul_of_nonneg_right hl hz
  have ce := fun (z : Rat) (hz : 0 ≤ z) => Rat.mul_le_mul_of_nonneg_right (show c ≤ 1 - h by grind) hz
  rcases A with ⟨k, A⟩ | ⟨k, A⟩ <;> rcases B with ⟨k', B⟩ | ⟨k', B⟩
  · have g := grow1 ha ha2 hb hb2 h0 hxy k' l0 A B
    have := cd (y - x) (by grind)
    grind
  · have g := cross ha ha2 hb hb2 h0 k l0 A
    have g' := cross hb hb2 ha ha2 (show 0 < 1 - y by grind) (by grind) n0 B
    have s := (hf_sum ha hb ha2 hb2).2
    have hf2 : (1 / 2 : Rat) + 1 / 2 = 1 := by decide +kernel
    generalize (1 / 2 : Rat) = hf at *
    have u1 := cd (hf - x) (by grind)
    have u2 := ce (hf - (1 - y)) (by grind)
    have e : c * (y - x) = c * (hf - x) + c * (hf - (1 - y)) := by grind
    rw [Rat.add_mul, e]
    generalize hfHi a b = w1 at *
    generalize hfHi b a = w2 at *
    generalize c * (hf - x) = c1 at *
    generalize c * (hf - (1 - y)) = c2 at *
    generalize l * (hf - x) = c3 at *
    generalize (1 - h) * (hf - (1 - y)) = c4 at *
    clear cd ce A B e
    grind
  · exact absurd k (by grind)
  · have g := grow1 hb hb2 ha ha2 (show 0 < 1 - y by grind) (show 1 - y ≤ 1 - x by grind) (by grind) n0 B A
    have := ce (1 - x - (1 - y)) (by grind)
    have e : 1 - x - (1 - y) = y - x := by grind
    rw [e] at g this
    grind
end
end Go.Proofs.YtecjelnpmcnbaaaGreat
namespace Go.Proofs.YtecjelnpmcnbaaaGreat
open Go.Ev
section
variable {a b p A B : Nat} {x l h : Rat}
theorem told_dn (A p : Nat) : toldLo A p * p2 (p + 300) ≤ (A : Rat) := by
  have e : p2 (p + 300) = p2 (p + 2) * p2 (p + 300 - (p + 2)) := by rw [← p2_plus]; congr 1; omega
  have m := mk_p2n (A / 2 ^ (p + 300 - (p + 2))) (p + 2)
  unfold toldLo
  rw [e, ← Rat.mul_assoc, m]
  exact floor_le
theorem told_up (B p : Nat) : (B : Rat) ≤ toldHi B p * p2 (p + 300) := by
  have e : p2 (p + 300) = p2 (p + 2) * p2 (p + 300 - (p + 2)) := by rw [← p2_plus]; congr 1; omega
  have m := mk_p2n (B / 2 ^ (p + 300 - (p + 2)) + 1) (p + 2)
  unfold toldHi
  rw [e, ← Rat.mul_assoc, m]
  exact le_floor (Nat.pow_pos (by omega))
theorem row_Lo1 (rs : RowS a b (p + 300) x A B) : Lo1 a b x (toldLo A p) := by
  by_cases t0 : toldLo A p ≤ 0
  · exact .inl t0
  obtain ⟨K, hK⟩ := rs
  refine .inr ⟨K, fun m hm => ?_⟩
  have g := (hK m hm).1
  have P := p2_pos (p + 300)
  have t := told_dn A p
  have tn : 0 ≤ toldLo A p * p2 (p + 300) := Rat.mul_nonneg (by grind) (Rat.le_of_lt P)
  have mm := mul_both t t (nat_nonneg A) tn
  refine le_by (Rat.mul_pos P P) ?_
  generalize toldLo A p = u at *
  generalize p2 (p + 300) = w at *
  have e : u * u * (w * w) = u * w * (u * w) := by grind
  rw [e]
  exact Rat.le_trans mm g
theorem row_Hi1 (rs : RowS a b (p + 300) x A B) : Hi1 a b x (toldHi B p) := by
  obtain ⟨K, hK⟩ := rs
  refine ⟨hi_nn, K, fun m hm => ?_⟩
  have g := (hK m hm).2
  have P := p2_pos (p + 300)
  have t := told_up B p
  have mm := mul_both t t (Rat.le_trans (nat_nonneg B) t) (nat_nonneg B)
  refine le_by (Rat.mul_pos P P) ?_
  generalize toldHi B p = u at *
  generalize p2 (p + 300) = w at *
  have e : u * u * (w * w) = u * w * (u * w) := by grind
  rw [e]
  exact Rat.le_trans g mm
theorem ball_LoHi (g : BallS a b p x l h) : LoS a b x l ∧ HiS a b x h := by
  rcases g with ⟨k, A, B, rs, -, rfl, rfl⟩ | ⟨k, A, B, rs, -, rfl, rfl⟩
  · exact ⟨.inl ⟨k, row_Lo1 rs⟩, .inl ⟨k, row_Hi1 rs⟩⟩
  · refine ⟨.inr ⟨k, ?_⟩, .inr ⟨k, ?_⟩⟩
    · rw [show 1 - (1 - toldHi B p) = toldHi B p by grind]; exact row_Hi1 rs
    · rw [show 1 - (1 - toldLo A p) = toldLo A p by grind]; exact row_Lo1 rs
theorem told_wide {A B p : Nat} (h : B ≤ A + 2 ^ 121) : (toldHi B p - toldLo A p) * p2 p ≤ 1 := by
  unfold toldLo toldHi
  obtain ⟨F, hF, hF2⟩ : ∃ F : Nat, F = p + 300 - (p + 2) ∧ 121 ≤ F := ⟨_, rfl, by omega⟩
  rw [← hF]
  have m1 := mk_p2n (A / 2 ^ F) (p + 2)
  have m2 := mk_p2n (B / 2 ^ F + 1) (p + 2)
  have gap : B / 2 ^ F ≤ A / 2 ^ F + 1 := by
    have h6 : 2 ^ 121 ≤ 2 ^ F := Nat.pow_le_pow_right (by omega) hF2
    have h4 : B ≤ A + 2 ^ F := Nat.le_trans h (Nat.add_le_add_left h6 _)
    have h5 := Nat.div_le_div_right (c := 2 ^ F) h4
    rwa [Nat.add_div_right _ (Nat.pow_pos (by omega))] at h5
  have gapR := nat_le_rat (Nat.add_le_add_right gap 1)
  have c2 : ((A / 2 ^ F + 1 + 1 : Nat) : Rat) = ((A / 2 ^ F : Nat) : Rat) + 2 := by exact_mod_cast rfl
  rw [c2] at gapR
  have hp2 : p2 (p + 2) = p2 p * 4 := by
    rw [p2_plus]; rfl
  rw [hp2] at m1 m2
  clear hF gap h hp2 c2
  generalize mkRat ((A / 2 ^ F : Nat) : Int) (2 ^ (p + 2)) = q1 at *
  generalize mkRat ((B / 2 ^ F + 1 : Nat) : Int) (2 ^ (p + 2)) = q2 at *
  generalize p2 p = w at *
  grind
theorem incb_ballW {L : Nat} {v : SV} (hv : RatA v x L) (hL1 : 1 ≤ L) (hL : L ≤ 190) (ha : 1 ≤ a) (ha2 : a ≤ 20) (hb : 1 ≤ b) (hb2 : b ≤ 20) (hp : p ≤ 200) (h0 : 0 < x) (h1 : x < 1) :
    ∃ l h : Rat, Go.Ev.Fn CX 156 [.int .i64 (a : Int), .int .i64 (b : Int), v, .int .i64 (p : Int)] (.tup [ballR l h, .bool true]) ∧ szR l 200 ∧ szR h 200 ∧ l ≤ h ∧ (h - l) * p2 p ≤ 1 ∧ LoS a b x l ∧ HiS a b x h := by
  have zx := szR_of hv hL1
  have one1 : szR 1 1 := ⟨lim_len_lt (by decide +kernel), lim_len_lt (by decide +kernel)⟩
  by_cases hh : x + x ≤ 1
  · obtain ⟨A, B, f, g2, g3, rs, wd⟩ := row_sq (a := a) (b := b) (p := p) zx hL1 (by omega) ha ha2 hb hb2 (by omega) (Rat.le_of_lt h0) hh
    have f1 := incb_I_lo hv hL1 (by omega) ha ha2 hb hb2 (by omega) h0 hh f ⟨g2, g3⟩
    obtain ⟨z1, z2⟩ := told_sz (p := p) (by omega) g2 g3
    have g : BallS a b p x _ _ := .inl ⟨hh, A, B, rs, rows_ab rs, rfl, rfl⟩
    exact ⟨_, _, f1, szR_mono z1 (by omega), szR_mono z2 (by omega), ball_le g, told_wide wd, (ball_LoHi g).1, (ball_LoHi g).2⟩
  · have zy := szR_sub one1 zx (by omega)
    have hh' : 1 < x + x := by grind
    obtain ⟨A, B, f, g2, g3, rs, wd⟩ := row_sq (x := 1 - x) (a := b) (b := a) (p := p) zy (by omega) (by omega) hb hb2 ha ha2 (by omega) (by grind) (by grind)
    have f1 := incb_I_hi hv hL1 (by omega) ha ha2 hb hb2 (by omega) hh' h1 f ⟨g2, g3⟩
    obtain ⟨z1, z2⟩ := told_sz (p := p) (by omega) g2 g3
    have g : BallS a b p x _ _ := .inr ⟨hh', A, B, rs, rows_ab rs, rfl, rfl⟩
    have w := told_wide (p := p) wd
    exact ⟨_, _, f1, szR_mono (szR_sub one1 z2 (by omega)) (by omega), szR_mono (szR_sub one1 z1 (by omega)) (by omega), ball_le g, by rw [show 1 - toldLo A p - (1 - toldHi B p) = toldHi B p - toldLo A p by grind]; exact w, (ball_LoHi g).1, (ball_LoHi g).2⟩
end
end Go.Proofs.YtecjelnpmcnbaaaGreat
namespace Go.Proofs.YtecjelnpmcnbaaaGreat
open Go.Ev
def Dy (J : Nat) (x : Rat) : Prop := ∃ A : Nat, A ≤ 2 ^ J ∧ x * p2 J = (A : Rat)
theorem p2_cat (a b : Nat) : p2 (a + b) = p2 a * p2 b := by
  have : ((2 ^ a : Nat) : Rat) * ((2 ^ b : Nat) : Rat) = ((2 ^ a * 2 ^ b : Nat) : Rat) := by exact_mod_cast rfl
  rw [this, ← Nat.pow_add]
theorem p2_next (J : Nat) : p2 (J + 1) = p2 J * 2 := by
  rw [p2_cat]
  rfl
theorem dy_zero (J : Nat) : Dy J 0 := ⟨0, Nat.zero_le _, Rat.zero_mul _⟩
theorem dy_one (J : Nat) : Dy J 1 := ⟨2 ^ J, Nat.le_refl _, Rat.one_mul _⟩
theorem dy_up {J : Nat} {x : Rat} (h : Dy J x) : Dy (J + 1) x := by
  obtain ⟨A, hA, e⟩ := h
  refine ⟨A * 2, by rw [Nat.pow_succ]; omega, ?_⟩
  rw [p2_next, ← Rat.mul_assoc, e]
  exact_mod_cast rfl
theorem dy_mid {J : Nat} {x y : Rat} (h : Dy J x) (k : Dy J y) : Dy (J + 1) ((x + y) / 2) := by
  obtain ⟨A, hA, e⟩ := h
  obtain ⟨B, hB, f⟩ := k
  refine ⟨A + B, by rw [Nat.pow_succ]; omega, ?_⟩
  have c : ((A + B : Nat) : Rat) = (A : Rat) + (B : Rat) := by exact_mod_cast rfl
  rw [p2_next, c, ← e, ← f]
  generalize p2 J = w
  grind
theorem dy_sub {J s : Nat} {x t : Rat} (h : Dy J x) (hs : s ≤ J) (ht : t * p2 s = 1) (h0 : 0 ≤ x - t) : Dy J (x - t) := by
  obtain ⟨A, hA, e⟩ := h
  obtain ⟨r, rfl⟩ : ∃ r, J = s + r := ⟨J - s, by omega⟩
  have et : t * p2 (s + r) = p2 r := by rw [p2_cat, ← Rat.mul_assoc, ht, Rat.one_mul]
  have P := p2_pos (s + r)
  have n := Rat.mul_nonneg h0 (Rat.le_of_lt P)
  have e2 : (x - t) * p2 (s + r) = (A : Rat) - p2 r := by
    rw [← e, ← et]
    generalize p2 (s + r) = w
    grind
  rw [e2] at n
  have hle : 2 ^ r ≤ A := by
    have : p2 r ≤ (A : Rat) := by grind
    exact_mod_cast this
  refine ⟨A - 2 ^ r, Nat.le_trans (Nat.sub_le _ _) hA, ?_⟩
  rw [e2]
  have c : ((A - 2 ^ r : Nat) : Rat) + p2 r = (A : Rat) := by
    have : A - 2 ^ r + 2 ^ r = A := by omega
    exact_mod_cast this
  grind
theorem dy_add {J s : Nat} {x t : Rat} (h : Dy J x) (hs : s ≤ J) (ht : t * p2 s = 1) (h1 : x + t ≤ 1) : Dy J (x + t) := by
  obtain ⟨A, hA, e⟩ := h
  obtain ⟨r, rfl⟩ : ∃ r, J = s + r := ⟨J - s, by omega⟩
  have et : t * p2 (s + r) = p2 r := by rw [p2_cat, ← Rat.mul_assoc, ht, Rat.one_mul]
  have P := p2_pos (s + r)
  have n := Rat.mul_le_mul_of_nonneg_right h1 (Rat.le_of_lt P)
  have e2 : (x + t) * p2 (s + r) = ((A + 2 ^ r : Nat) : Rat) := by
    have c : ((A + 2 ^ r : Nat) : Rat) = (A : Rat) + p2 r := by exact_mod_cast rfl
    rw [c, ← e, ← et]
    generalize p2 (s + r) = w
    grind
  rw [e2, Rat.one_mul] at n
  exact ⟨A + 2 ^ r, by exact_mod_cast n, e2⟩
theorem dy_eq {J : Nat} {x : Rat} (h : Dy J x) : ∃ A : Nat, A ≤ 2 ^ J ∧ x = mkRat (A : Int) (2 ^ J) := by
  obtain ⟨A, hA, e⟩ := h
  refine ⟨A, hA, ?_⟩
  have P := p2_pos J
  rw [Rat.mkRat_eq_div]
  have h : x = (A : Rat) / p2 J := by
    rw [← e]
    generalize p2 J = w at *
    grind
  rw [h]
  rfl
theorem dy_sz {J : Nat} {x : Rat} (h : Dy J x) (hJ : J < 96) : szR x 3 := by
  obtain ⟨A, hA, rfl⟩ := dy_eq h
  have h2 : 2 ^ J < 4294967296 ^ 3 := Nat.lt_of_lt_of_le (Nat.pow_lt_pow_right (a := 2) (by omega) hJ) (by decide)
  have l1 : (lim A).length ≤ 3 := lim_len_lt (by omega)
  have l2 : (lim (2 ^ J)).length ≤ 3 := lim_len_lt h2
  exact szR_mk (s := false) l1 l2 (by omega)
end Go.Proofs.YtecjelnpmcnbaaaGreat
namespace Go.Proofs.YtecjelnpmcnbaaaGreat
open Go.Ev
def LowOk (a b : Nat) (q x : Rat) : Prop := 0 ≤ x ∧ (x = 0 ∨ (x < 1 ∧ ∃ h, HiS a b x h ∧ h < q))
def HighOk (a b : Nat) (q x : Rat) : Prop := x ≤ 1 ∧ (x = 1 ∨ (0 < x ∧ ∃ l, LoS a b x l ∧ q < l))
structure Srch (a b : Nat) (q : Rat) (k : Nat) (lo hi : Rat) : Prop where
  low : LowOk a b q lo
  high : HighOk a b q hi
  lt : lo < hi
  dlo : Dy (18 + k) lo
  dhi : Dy (18 + k) hi
  w : (hi - lo) * ((4 ^ k : Nat) : Rat) ≤ ((3 ^ k : Nat) : Rat)
section
variable {a b k : Nat} {q lo hi lo' hi' : Rat}
end
end Go.Proofs.YtecjelnpmcnbaaaGreat
namespace Go.Proofs.YtecjelnpmcnbaaaGreat
open Go.Ev
theorem noA : RatA (ratV false [] []) 0 1 := ⟨false, [], [], rfl, okL_nil, okL_nil, by simp, by simp, by simp [sgn, wth]⟩
section
variable {n p : Int} {x l h : Rat} {v : SV} {L : Nat}
end
theorem q_over {v w : SV} {q r : Rat} {L M : Nat} (hv : RatA v q L) (hw : RatA w r M) (hL : 1 ≤ L) (hM : 1 ≤ M) (h : L + M ≤ 100000) : Go.Ev.Fn CX 60 [v, w] (rv (q / r)) := by
  have d := rat_Div hv hw hL hM (by omega)
  obtain ⟨s, n, e, rfl, -⟩ := hv
  obtain ⟨s', n', e', rfl, -⟩ := hw
  refine Go.Ev.Fn.intro (fn := Tryz.f60) (body := (Tryz.f60).body.get!) (by kernel_rfl) (by kernel_rfl) (by kernel_rfl) (fun _ => rfl) (Nat.le_of_ble_eq_true (by kernel_rfl)) ?_; unfold Tryz.f60; simp only [Option.get!_some]
  repeat (first | (simp only [go_sem]) | (simp (disch := (first | omega | (simp only [AL, List.length_map]; omega))) only [AR, AL, ifT, ifF, take_all, List.length_cons, List.length_nil, Int.reduceToNat, Int.reducePow, Nat.reducePow]) | (refine wk_intro (by kernel_rfl) ?_) | (refine vf_of (by first | exact d) ?_))
theorem q_bit (P : Nat) (hP : P ≤ 40) : Go.Ev.Fn CX 29 [.int .i64 (P : Int)] (rv (mkRat 1 (2 ^ P))) := by
  have o := nat_Of 1 (by omega)
  have sh := nat_shl (N := 1) (m := P) (by decide) (by omega)
  rw [Nat.one_mul] at sh
  have l2 : (lim (2 ^ P)).length ≤ 2 := by
    have h1 : 2 ^ P ≤ 2 ^ 40 := Nat.pow_le_pow_right (by omega) hP
    exact lim_len_lt (Nat.lt_of_le_of_lt h1 (by decide))
  have r := rat_OfL (s := false) (n := 1) (d := 2 ^ P) (by decide) (by omega)
  rw [show sgn false 1 = 1 from rfl] at r
  generalize 2 ^ P = E at *
  refine Go.Ev.Fn.intro (fn := Tryz.f29) (body := (Tryz.f29).body.get!) (by kernel_rfl) (by kernel_rfl) (by kernel_rfl) (fun _ => rfl) (Nat.le_of_ble_eq_true (by kernel_rfl)) ?_; unfold Tryz.f29; simp only [Option.get!_some]
  repeat (first | (simp only [go_sem]) | (simp (disch := (first | omega | (simp only [AL, List.length_map]; omega))) only [AR, AL, ifT, ifF, take_all, List.length_cons, List.length_nil, Int.reduceToNat, Int.reducePow, Nat.reducePow]) | (refine wk_intro (by kernel_rfl) ?_) | (refine vf_of (by first | exact o | exact sh | exact r) ?_))
def sideR (l h q : Rat) : Int := if h < q then -1 else if q < l then 1 else 0
theorem q_Side {l h q : Rat} {L M : Nat} (z1 : szR l L) (z2 : szR h L) (z3 : szR q M) (hL : 1 ≤ L) (hM : 1 ≤ M) (hLM : L + M ≤ 100000) : Go.Ev.Fn CX 63 [ballR l h, ballR q q] (.int .i64 (sideR l h q)) := by
  have c1 := rat_Cmp (RatA_rv z2) (RatA_rv z3) hL hM (by omega)
  have c2 := rat_Cmp (RatA_rv z1) (RatA_rv z3) hL hM (by omega)
  have e1 := cmpR_lt (q := h) (r := q)
  have e2 := cmpR_gt (q := l) (r := q)
  unfold sideR
  by_cases h1 : h < q
  · rw [if_pos h1]
    rw [decide_eq_true h1] at e1
    refine Go.Ev.Fn.intro (fn := Tryz.f63) (body := (Tryz.f63).body.get!) (by kernel_rfl) (by kernel_rfl) (by kernel_rfl) (fun _ => rfl) (Nat.le_of_ble_eq_true (by kernel_rfl)) ?_; unfold Tryz.f63; simp only [Option.get!_some]
    repeat (first | (simp only [go_sem, e1]) | (simp (disch := (first | omega | (simp only [AL, List.length_map]; omega))) only [AR, AL, ifT, ifF, take_all, List.length_cons, List.length_nil, Int.reduceToNat, Int.reducePow, Nat.reducePow, e1]) | (refine wk_intro (by kernel_rfl) ?_) | (refine vf_of (by first | exact c1) ?_))
  · rw [if_neg h1]
    rw [decide_eq_false h1] at e1
    by_cases h2 : q < l
    · rw [if_pos h2]
      rw [decide_eq_true h2] at e2
      refine Go.Ev.Fn.intro (fn := Tryz.f63) (body := (Tryz.f63).body.get!) (by kernel_rfl) (by kernel_rfl) (by kernel_rfl) (fun _ => rfl) (Nat.le_of_ble_eq_true (by kernel_rfl)) ?_; unfold Tryz.f63; simp only [Option.get!_some]
      repeat (first | (simp only [go_sem, e1, e2]) | (simp (disch := (first | omega | (simp only [AL, List.length_map]; omega))) only [AR, AL, ifT, ifF, take_all, List.length_cons, List.length_nil, Int.reduceToNat, Int.reducePow, Nat.reducePow, e1, e2]) | (refine wk_intro (by kernel_rfl) ?_) | (refine vf_of (by first | exact c1 | exact c2) ?_))
    · rw [if_neg h2]
      rw [decide_eq_false h2] at e2
      refine Go.Ev.Fn.intro (fn := Tryz.f63) (body := (Tryz.f63).body.get!) (by kernel_rfl) (by kernel_rfl) (by kernel_rfl) (fun _ => rfl) (Nat.le_of_ble_eq_true (by kernel_rfl)) ?_; unfold Tryz.f63; simp only [Option.get!_some]
      repeat (first | (simp only [go_sem, e1, e2]) | (simp (disch := (first | omega | (simp only [AL, List.length_map]; omega))) only [AR, AL, ifT, ifF, take_all, List.length_cons, List.length_nil, Int.reduceToNat, Int.reducePow, Nat.reducePow, e1, e2]) | (refine wk_intro (by kernel_rfl) ?_) | (refine vf_of (by first | exact c1 | exact c2) ?_))
end Go.Proofs.YtecjelnpmcnbaaaGreat
namespace Go.Proofs.YtecjelnpmcnbaaaGreat
open Go.Ev
theorem exp_side {s : St} {cs : List SV} {v : SV} : expOf s [.imp cs, .sv v] = [s.obj 1000000 0, none] := rfl
theorem exp_wide {s : St} {cs : List SV} : expOf s [.imp cs] = [s.obj 1000000 0] := rfl
end Go.Proofs.YtecjelnpmcnbaaaGreat
namespace Go.Proofs.YtecjelnpmcnbaaaGreat
open Go.Ev
theorem same_natV (xs : List Nat) : sameSV (natV xs) (natV xs) = true := by
  have key : ∀ xs : List Nat, sameL (xs.map limb) (xs.map limb) = true := by
    intro xs
    induction xs with
    | nil => rfl
    | cons x xs ih =>
      rw [List.map_cons]
      unfold sameL
      rw [ih, Bool.and_true]
      unfold limb sameSV
      simp
  unfold natV sameSV
  rw [key]
  simp
theorem to_facts {p : Nat} (hp : p ≤ 16) : ∃ to t : Rat, to = mkRat 1 (2 ^ p) ∧ t = to / 4 ∧ t * p2 (p + 2) = 1 ∧ 0 < t ∧ to = 4 * t ∧ 1 ≤ to * 65536 ∧ szR to 1 ∧ szR t 1 := by
  have m := mk_mulP (1 : Int) (b := 2 ^ p) (Nat.pow_pos (by omega))
  have P := p2_pos p
  have le : p2 p ≤ 65536 := by
    have h : 2 ^ p ≤ 65536 := by
      have := Nat.pow_le_pow_right (n := 2) (by omega) hp
      exact this
    exact_mod_cast h
  have e2 : p2 (p + 2) = p2 p * 4 := by rw [p2_cat]; rfl
  have m1 : mkRat 1 (2 ^ p) * p2 p = 1 := m
  have z1 : szR (mkRat 1 (2 ^ p)) 1 := by
    have h : 2 ^ p < 4294967296 ^ 1 := by
      have := Nat.pow_le_pow_right (n := 2) (by omega) hp
      omega
    exact szR_mk (s := false) (n := 1) (by decide) (lim_len_lt h) (by omega)
  have e4 : mkRat 1 (2 ^ p) / 4 = mkRat 1 (2 ^ (p + 2)) := by
    have m2 := mk_mulP (1 : Int) (b := 2 ^ (p + 2)) (Nat.pow_pos (by omega))
    have m3 : mkRat 1 (2 ^ (p + 2)) * p2 (p + 2) = 1 := m2
    rw [e2] at m3
    generalize mkRat 1 (2 ^ (p + 2)) = y at *
    generalize mkRat 1 (2 ^ p) = x at *
    generalize p2 p = w at *
    grind
  have z2 : szR (mkRat 1 (2 ^ p) / 4) 1 := by
    rw [e4]
    have h : 2 ^ (p + 2) < 4294967296 ^ 1 := by
      have := Nat.pow_le_pow_right (n := 2) (by omega) (show p + 2 ≤ 18 by omega)
      omega
    exact szR_mk (s := false) (n := 1) (by decide) (lim_len_lt h) (by omega)
  clear e4
  refine ⟨_, _, rfl, rfl, ?_, ?_, ?_, ?_, z1, z2⟩
  · rw [e2]
    generalize mkRat 1 (2 ^ p) = x at *
    generalize p2 p = w at *
    grind
  · clear m z1 z2 e2
    generalize mkRat 1 (2 ^ p) = x at *
    generalize p2 p = w at *
    have : 0 < x := by
      rcases Rat.le_total (a := x) (b := 0) with h | h
      · have := Rat.mul_le_mul_of_nonneg_right h (Rat.le_of_lt P)
        grind
      · by_cases e : x = 0
        · subst e; grind
        · grind
    grind
  · generalize mkRat 1 (2 ^ p) = x at *
    grind
  · clear m z1 z2 e2
    generalize mkRat 1 (2 ^ p) = x at *
    generalize p2 p = w at *
    have x0 : 0 ≤ x := by
      rcases Rat.le_total (a := x) (b := 0) with h | h
      · have := Rat.mul_le_mul_of_nonneg_right h (Rat.le_of_lt P)
        grind
      · exact h
    have := Rat.mul_le_mul_of_nonneg_left le x0
    grind
end Go.Proofs.YtecjelnpmcnbaaaGreat
namespace Go.Proofs.YtecjelnpmcnbaaaGreat
open Go.Ev
abbrev seC (k n m : Int) (sa : Bool) (na da : List Nat) (sb : Bool) (nb db : List Nat) (q lo hi : Rat) : List SV := [.int .i64 k, .int .i64 n, .int .i64 m, .bool sa, natV na, natV da, .bool sb, natV nb, natV db,
  .bool (decide (q.num < 0)), natV (lim q.num.natAbs), natV (lim q.den), .bool (decide (q.num < 0)), natV (lim q.num.natAbs), natV (lim q.den),
  .bool (decide (lo.num < 0)), natV (lim lo.num.natAbs), natV (lim lo.den), .bool (decide (hi.num < 0)), natV (lim hi.num.natAbs), natV (lim hi.den)]
abbrev Tells := Rat → Rat → Prop
def NearT (Lo Hi : Tells) (q x : Rat) : Prop := ∃ l h, Lo x l ∧ Hi x h ∧ l ≤ q ∧ q ≤ h ∧ (h - l) * 340282366920938463463374607431768211456 ≤ 1
def ToldT (Lo Hi : Tells) (q x : Rat) (s : Int) : Prop := (s = -1 ∧ ∃ h, Hi x h ∧ h < q) ∨ (s = 1 ∧ ∃ l, Lo x l ∧ q < l) ∨ (s = 0 ∧ NearT Lo Hi q x)
section
variable {k n m : Int} {sa sb : Bool} {na da nb db : List Nat} {Lo Hi : Tells}
def CdfT (d : SV) (Lo Hi : Tells) (x : Rat) : Prop := ∀ P : Nat, (P = 32 ∨ P = 64 ∨ P = 128 ∨ P = 256) →
  ∃ l h : Rat, Go.Ev.Fn CX 62 [d, rv x, .int .i64 (P : Int)] (.tup [ballR l h, .int .i64 0]) ∧ szR l 500 ∧ szR h 500 ∧ (P = 256 → (h - l) * 340282366920938463463374607431768211456 ≤ 1) ∧ Lo x l ∧ Hi x h
set_option maxHeartbeats 1000000 in
theorem side_T {q lo hi x : Rat} (zq : szR q 1) (zx : szR x 20) (hc : CdfT (distV k n m sa na da sb nb db) Lo Hi x) :
    ∃ r exps, (∃ s : Int, ToldT Lo Hi q x s ∧ r = .int .i64 s ∧ exps = [some (seC k n m sa na da sb nb db q lo hi), none]) ∧ FnI CX 27 [.imp (seC k n m sa na da sb nb db q lo hi), .sv (rv x)] r exps := by
  refine FnI_of (fn := Tryz.f27) (body := (Tryz.f27).body.get!) (by kernel_rfl) (by kernel_rfl) (by kernel_rfl) (fun _ => rfl) (Nat.le_of_ble_eq_true (by kernel_rfl)) ?_
  unfold Tryz.f27
  simp only [Option.get!_some, exp_side]
  repeat (first | (simp only [go_sem, N0]) | (simp (disch := (first | omega | (simp only [AL, List.length_map]; omega))) only [AR, AL, ifT, ifF, take_all, List.length_cons, List.length_nil, Int.reduceToNat, Int.reducePow, Nat.reducePow, N0]) | (refine wk_intro (by kernel_rfl) ?_))
  refine vp_loop_inv (fun s => s.tmp 0 = .ptr 1000000 0 0 ∧ s.obj 1000000 0 = some (seC k n m sa na da sb nb db q lo hi) ∧ s.tmp 3 = .ptr 3 0 0 ∧ s.obj 3 0 = some [.bool (decide (x.num < 0)), natV (lim x.num.natAbs), natV (lim x.den)] ∧
      ∃ P : Nat, s.tmp 5 = .sv (.int .i64 (P : Int)) ∧ (P = 32 ∨ P = 64 ∨ P = 128 ∨ P = 256))
    (fun s => match s.tmp 5 with | .sv (.int _ i) => 300 - i.toNat | _ => 0) ?_ ?_
  · exact ⟨rfl, rfl, rfl, rfl, 32, rfl, .inl rfl⟩
  rintro s ⟨i0, iO, i3, oX, P, i5, hP⟩
  obtain ⟨l, h, c, y1, y2, w, A, B⟩ := hc P hP
  have sd := q_Side y1 y2 zq (by omega) (by omega) (by omega)
  clear hc y1 y2
  unfold sideR at sd
  by_cases k1 : h < q
  · rw [if_pos k1] at sd
    repeat (first | (simp only [go_sem, i0, iO, i3, oX, i5]) | (simp (disch := (first | omega | (simp only [AL, List.length_map]; omega))) only [AR, AL, ifT, ifF, take_all, List.length_cons, List.length_nil, Int.reduceToNat, Int.reducePow, Nat.reducePow, i0, iO, i3, oX, i5]) | (refine wk_intro (by kernel_rfl) ?_) | (refine vp_draw (l := []) (by kernel_rfl) ?_) | (refine vf_of (by first | exact c | exact sd) ?_))
    exact ⟨_, _, ⟨-1, .inl ⟨rfl, h, B, k1⟩, rfl, rfl⟩, rfl, rfl⟩
  · rw [if_neg k1] at sd
    by_cases k2 : q < l
    · rw [if_pos k2] at sd
      repeat (first | (simp only [go_sem, i0, iO, i3, oX, i5]) | (simp (disch := (first | omega | (simp only [AL, List.length_map]; omega))) only [AR, AL, ifT, ifF, take_all, List.length_cons, List.length_nil, Int.reduceToNat, Int.reducePow, Nat.reducePow, i0, iO, i3, oX, i5]) | (refine wk_intro (by kernel_rfl) ?_) | (refine vp_draw (l := []) (by kernel_rfl) ?_) | (refine vf_of (by first | exact c | exact sd) ?_))
      exact ⟨_, _, ⟨1, .inr (.inl ⟨rfl, l, A, k2⟩), rfl, rfl⟩, rfl, rfl⟩
    · rw [if_neg k2] at sd
      by_cases hP2 : P = 256
      · subst hP2
        have w2 := w rfl
        repeat (first | (simp only [go_sem, i0, iO, i3, oX, i5]) | (simp (disch := (first | omega | (simp only [AL, List.length_map]; omega))) only [AR, AL, ifT, ifF, take_all, List.length_cons, List.length_nil, Int.reduceToNat, Int.reducePow, Nat.reducePow, i0, iO, i3, oX, i5]) | (refine wk_intro (by kernel_rfl) ?_) | (refine vp_draw (l := []) (by kernel_rfl) ?_) | (refine vf_of (by first | exact c | exact sd) ?_))
        exact ⟨_, _, ⟨0, .inr (.inr ⟨rfl, l, h, A, B, by grind, by grind, w2⟩), rfl, rfl⟩, rfl, rfl⟩
      · have hP3 : P < 200 := by omega
        clear A B w k1 k2
        repeat (first | (simp only [go_sem, i0, iO, i3, oX, i5]) | (simp (disch := (first | omega | (simp only [AL, List.length_map]; omega))) only [AR, AL, ifT, ifF, take_all, List.length_cons, List.length_nil, Int.reduceToNat, Int.reducePow, Nat.reducePow, i0, iO, i3, oX, i5]) | (refine wk_intro (by kernel_rfl) ?_) | (refine vp_draw (l := []) (by kernel_rfl) ?_) | (refine vf_of (by first | exact c | exact sd) ?_))
        exact ⟨⟨P * 2, rfl, by omega⟩, by omega⟩
theorem wide_T {q lo hi : Rat} (z1 : szR lo 20) (z2 : szR hi 20) :
    ∃ r exps, (r = rv (hi - lo) ∧ exps = [some (seC k n m sa na da sb nb db q lo hi)]) ∧ FnI CX 64 [.imp (seC k n m sa na da sb nb db q lo hi)] r exps := by
  have sb' := rat_Sub (RatA_rv z2) (RatA_rv z1) (by omega) (by omega) (by omega)
  generalize hi - lo = d at *
  refine FnI_of (fn := Tryz.f64) (body := (Tryz.f64).body.get!) (by kernel_rfl) (by kernel_rfl) (by kernel_rfl) (fun _ => rfl) (Nat.le_of_ble_eq_true (by kernel_rfl)) ?_
  unfold Tryz.f64
  simp only [Option.get!_some, exp_wide]
  repeat (first | (simp only [go_sem, N0]) | (simp (disch := (first | omega | (simp only [AL, List.length_map]; omega))) only [AR, AL, ifT, ifF, take_all, List.length_cons, List.length_nil, Int.reduceToNat, Int.reducePow, Nat.reducePow, N0]) | (refine wk_intro (by kernel_rfl) ?_) | (refine vp_draw (l := []) (by kernel_rfl) ?_) | (refine vf_of (by first | exact sb') ?_))
  exact ⟨_, _, ⟨rfl, rfl⟩, rfl, rfl⟩
set_option maxHeartbeats 1000000 in
theorem takes_T {q lo hi x : Rat} (zq : szR q 1) (zx : szR x 20) (zl : szR lo 20) (zh : szR hi 20) (hc : CdfT (distV k n m sa na da sb nb db) Lo Hi x) (hl : lo < x) (hh : x < hi) :
    ∃ r exps, (∃ (b : Bool) (lo' hi' : Rat), r = .bool b ∧ exps = [some (seC k n m sa na da sb nb db q lo' hi'), none] ∧
        ((b = true ∧ lo' = x ∧ hi' = hi ∧ ∃ h, Hi x h ∧ h < q) ∨ (b = true ∧ lo' = lo ∧ hi' = x ∧ ∃ l, Lo x l ∧ q < l) ∨ (b = false ∧ lo' = lo ∧ hi' = hi ∧ NearT Lo Hi q x))) ∧
      FnI CX 65 [.imp (seC k n m sa na da sb nb db q lo hi), .sv (rv x)] r exps := by
  obtain ⟨r, exps, ⟨s, ht, rfl, rfl⟩, hf⟩ := side_T (lo := lo) (hi := hi) zq zx hc
  have c1 := rat_Cmp (RatA_rv zx) (RatA_rv zl) (by omega) (by omega) (by omega)
  have c2 := rat_Cmp (RatA_rv zx) (RatA_rv zh) (by omega) (by omega) (by omega)
  have e1 := cmpR_le (q := x) (r := lo)
  have e2 := cmpR_ge (q := x) (r := hi)
  rw [decide_eq_false (show ¬ x ≤ lo by grind)] at e1
  rw [decide_eq_false (show ¬ hi ≤ x by grind)] at e2
  refine FnI_of (fn := Tryz.f65) (body := (Tryz.f65).body.get!) (by kernel_rfl) (by kernel_rfl) (by kernel_rfl) (fun _ => rfl) (Nat.le_of_ble_eq_true (by kernel_rfl)) ?_
  unfold Tryz.f65
  simp only [Option.get!_some, exp_side]
  repeat (first | (simp only [go_sem, N0, e1, e2]) | (simp (disch := (first | omega | (simp only [AL, List.length_map]; omega))) only [AR, AL, ifT, ifF, take_all, List.length_cons, List.length_nil, Int.reduceToNat, Int.reducePow, Nat.reducePow, N0, e1, e2]) | (refine wk_intro (by kernel_rfl) ?_) | (refine vp_draw (l := []) (by kernel_rfl) ?_) | (refine vf_of (by first | exact c1 | exact c2) ?_))
  refine vi_of hf rfl ?_
  rcases ht with ⟨rfl, ht⟩ | ⟨rfl, ht⟩ | ⟨rfl, ht⟩
  · repeat (first | (simp only [go_sem, N0]) | (simp (disch := (first | omega | (simp only [AL, List.length_map]; omega))) only [AR, AL, ifT, ifF, take_all, List.length_cons, List.length_nil, Int.reduceToNat, Int.reducePow, Nat.reducePow, N0]) | (refine wk_intro (by kernel_rfl) ?_) | (refine vp_draw (l := []) (by kernel_rfl) ?_))
    exact ⟨_, _, ⟨true, x, hi, rfl, rfl, .inl ⟨rfl, rfl, rfl, ht⟩⟩, rfl, rfl⟩
  · repeat (first | (simp only [go_sem, N0]) | (simp (disch := (first | omega | (simp only [AL, List.length_map]; omega))) only [AR, AL, ifT, ifF, take_all, List.length_cons, List.length_nil, Int.reduceToNat, Int.reducePow, Nat.reducePow, N0]) | (refine wk_intro (by kernel_rfl) ?_) | (refine vp_draw (l := []) (by kernel_rfl) ?_))
    exact ⟨_, _, ⟨true, lo, x, rfl, rfl, .inr (.inl ⟨rfl, rfl, rfl, ht⟩)⟩, rfl, rfl⟩
  · repeat (first | (simp only [go_sem, N0]) | (simp (disch := (first | omega | (simp only [AL, List.length_map]; omega))) only [AR, AL, ifT, ifF, take_all, List.length_cons, List.length_nil, Int.reduceToNat, Int.reducePow, Nat.reducePow, N0]) | (refine wk_intro (by kernel_rfl) ?_) | (refine vp_draw (l := []) (by kernel_rfl) ?_))
    exact ⟨_, _, ⟨false, lo, hi, rfl, rfl, .inr (.inr ⟨rfl, rfl, rfl, ht⟩)⟩, rfl, rfl⟩
theorem takes_outT {q lo hi x : Rat} (zx : szR x 20) (zl : szR lo 20) (zh : szR hi 20) (hl : lo < x) (hh : hi ≤ x) :
    ∃ r exps, (r = .bool false ∧ exps = [some (seC k n m sa na da sb nb db q lo hi), none]) ∧ FnI CX 65 [.imp (seC k n m sa na da sb nb db q lo hi), .sv (rv x)] r exps := by
  have c1 := rat_Cmp (RatA_rv zx) (RatA_rv zl) (by omega) (by omega) (by omega)
  have c2 := rat_Cmp (RatA_rv zx) (RatA_rv zh) (by omega) (by omega) (by omega)
  have e1 := cmpR_le (q := x) (r := lo)
  have e2 := cmpR_ge (q := x) (r := hi)
  rw [decide_eq_false (show ¬ x ≤ lo by grind)] at e1
  rw [decide_eq_true hh] at e2
  refine FnI_of (fn := Tryz.f65) (body := (Tryz.f65).body.get!) (by kernel_rfl) (by kernel_rfl) (by kernel_rfl) (fun _ => rfl) (Nat.le_of_ble_eq_true (by kernel_rfl)) ?_
  unfold Tryz.f65
  simp only [Option.get!_some, exp_side]
  repeat (first | (simp only [go_sem, N0, e1, e2]) | (simp (disch := (first | omega | (simp only [AL, List.length_map]; omega))) only [AR, AL, ifT, ifF, take_all, List.length_cons, List.length_nil, Int.reduceToNat, Int.reducePow, Nat.reducePow, N0, e1, e2]) | (refine wk_intro (by kernel_rfl) ?_) | (refine vp_draw (l := []) (by kernel_rfl) ?_) | (refine vf_of (by first | exact c1 | exact c2) ?_))
  exact ⟨_, _, ⟨rfl, rfl⟩, rfl, rfl⟩
theorem same_se (q lo hi : Rat) : sameL (seC k n m sa na da sb nb db q lo hi) (seC k n m sa na da sb nb db q lo hi) = true := by
  simp only [sameL, same_natV, Bool.and_true, Bool.true_and]
  simp [sameSV]
end
end Go.Proofs.YtecjelnpmcnbaaaGreat
namespace Go.Proofs.YtecjelnpmcnbaaaGreat
open Go.Ev
def Ds (c : Rat) (w J : Nat) (x : Rat) : Prop := ∃ y, Dy J y ∧ x = c + p2 w * y
section
variable {c x y t : Rat} {w J s : Nat}
theorem ds_up (h : Ds c w J x) : Ds c w (J + 1) x := by
  obtain ⟨z, hz, e⟩ := h
  exact ⟨z, dy_up hz, e⟩
theorem ds_mid (h : Ds c w J x) (k : Ds c w J y) : Ds c w (J + 1) ((x + y) / 2) := by
  obtain ⟨u, hu, e⟩ := h
  obtain ⟨v, hv, f⟩ := k
  refine ⟨_, dy_mid hu hv, ?_⟩
  rw [e, f]
  generalize p2 w = W
  grind
theorem ds_part (ht : t * p2 s = 1) : ∃ t', t' * p2 (s + w) = 1 ∧ p2 w * t' = t := by
  have W := p2_pos w
  refine ⟨t / p2 w, ?_, ?_⟩
  · rw [p2_cat]
    generalize p2 w = a at *
    generalize p2 s = b at *
    grind
  · generalize p2 w = a at *
    grind
theorem ds_range (h : Ds c w J x) : c ≤ x ∧ x ≤ c + p2 w := by
  obtain ⟨u, ⟨A, hA, e⟩, rfl⟩ := h
  have W := p2_pos w
  have P := p2_pos J
  have u0 : 0 ≤ u := le_by P (by rw [e, Rat.zero_mul]; exact nat_nonneg _)
  have u1 : u ≤ 1 := le_by P (by rw [e, Rat.one_mul]; exact_mod_cast hA)
  have a := Rat.mul_nonneg (Rat.le_of_lt W) u0
  have b := Rat.mul_le_mul_of_nonneg_left u1 (Rat.le_of_lt W)
  constructor <;> grind
theorem ds_sub (h : Ds c w J x) (hs : s + w ≤ J) (ht : t * p2 s = 1) (h0 : c ≤ x - t) : Ds c w J (x - t) := by
  obtain ⟨u, hu, e⟩ := h
  obtain ⟨t', a, b⟩ := ds_part (w := w) ht
  have W := p2_pos w
  have n : 0 ≤ u - t' := by
    refine le_by W ?_
    rw [Rat.zero_mul]
    rw [e, ← b] at h0
    generalize p2 w = a at *
    grind
  refine ⟨u - t', dy_sub hu hs a n, ?_⟩
  rw [e, ← b]
  generalize p2 w = a at *
  grind
theorem ds_add (h : Ds c w J x) (hs : s + w ≤ J) (ht : t * p2 s = 1) (h0 : x + t ≤ c + p2 w) : Ds c w J (x + t) := by
  obtain ⟨u, hu, e⟩ := h
  obtain ⟨t', a, b⟩ := ds_part (w := w) ht
  have W := p2_pos w
  have n : u + t' ≤ 1 := by
    refine le_by W ?_
    rw [Rat.one_mul]
    rw [e, ← b] at h0
    generalize p2 w = a at *
    grind
  refine ⟨u + t', dy_add hu hs a n, ?_⟩
  rw [e, ← b]
  generalize p2 w = a at *
  grind
theorem ds_sz {L : Nat} (h : Ds c w J x) (hJ : J < 96) (hw : w ≤ 20) (zc : szR c L) (hL : 1 ≤ L) : szR x (L + 5) := by
  obtain ⟨u, hu, rfl⟩ := h
  have zw : szR (p2 w) 1 := by
    have h2 : 2 ^ w < 4294967296 ^ 1 := by
      have := Nat.pow_le_pow_right (n := 2) (by omega) hw
      omega
    have e : p2 w = mkRat ((2 ^ w : Nat) : Int) 1 := by
      have h := Rat.mkRat_self (((2 ^ w : Nat) : Int) : Rat)
      rw [Rat.num_intCast, Rat.den_intCast] at h
      rw [h]
      exact_mod_cast rfl
    rw [e]
    exact szR_mk (s := false) (lim_len_lt h2) (by decide) (by omega)
  exact szR_mono (szR_add zc (szR_mul zw (dy_sz hu hJ) (by omega)) (by omega)) (by omega)
end
structure SrT (Lo Hi : Tells) (q c : Rat) (w : Nat) (lo0 hi0 : Rat) (k : Nat) (lo hi : Rat) : Prop where
  low : lo = lo0 ∨ (lo0 < lo ∧ ∃ h, Hi lo h ∧ h < q)
  high : hi = hi0 ∨ (hi < hi0 ∧ ∃ l, Lo hi l ∧ q < l)
  lt : lo < hi
  dlo : Ds c w (18 + w + k) lo
  dhi : Ds c w (18 + w + k) hi
  w : (hi - lo) * ((4 ^ k : Nat) : Rat) ≤ 128 * ((3 ^ k : Nat) : Rat)
section
variable {Lo Hi : Tells} {q c lo0 hi0 lo hi lo' hi' : Rat} {w k : Nat}
theorem srt_k (h : SrT Lo Hi q c w lo0 hi0 k lo hi) (hw : 1 < (hi - lo) * 65536) : k < 56 := by
  rcases Nat.lt_or_ge k 56 with h1 | h1
  · exact h1
  · exfalso
    obtain ⟨r, rfl⟩ : ∃ r, k = 56 + r := ⟨k - 56, by omega⟩
    have hh := h.w
    have e4 : ((4 ^ (56 + r) : Nat) : Rat) = ((4 ^ 56 : Nat) : Rat) * ((4 ^ r : Nat) : Rat) := by rw [Nat.pow_add]; exact_mod_cast rfl
    have e3 : ((3 ^ (56 + r) : Nat) : Rat) = ((3 ^ 56 : Nat) : Rat) * ((3 ^ r : Nat) : Rat) := by rw [Nat.pow_add]; exact_mod_cast rfl
    have h34 : ((3 ^ r : Nat) : Rat) ≤ ((4 ^ r : Nat) : Rat) := by
      have := Nat.pow_le_pow_left (show 3 ≤ 4 by omega) r
      exact_mod_cast this
    have p4 : (0 : Rat) < ((4 ^ r : Nat) : Rat) := by
      have : 0 < 4 ^ r := Nat.pow_pos (by omega)
      exact_mod_cast this
    have c4 : ((4 ^ 56 : Nat) : Rat) = 5192296858534827628530496329220096 := by decide +kernel
    have c3 : ((3 ^ 56 : Nat) : Rat) = 523347633027360537213511521 := by decide +kernel
    rw [e4, e3, c4, c3] at hh
    generalize ((4 ^ r : Nat) : Rat) = F at *
    generalize ((3 ^ r : Nat) : Rat) = T at *
    have m := Rat.mul_le_mul_of_nonneg_right (Rat.le_of_lt hw) (Rat.le_of_lt p4)
    grind
theorem srt_next (h : SrT Lo Hi q c w lo0 hi0 k lo hi) (l' : lo' = lo0 ∨ (lo0 < lo' ∧ ∃ h, Hi lo' h ∧ h < q)) (h' : hi' = hi0 ∨ (hi' < hi0 ∧ ∃ l, Lo hi' l ∧ q < l)) (hlt : lo' < hi')
    (d1 : Ds c w (18 + w + (k + 1)) lo') (d2 : Ds c w (18 + w + (k + 1)) hi') (hw : (hi' - lo') * 4 ≤ (hi - lo) * 3) : SrT Lo Hi q c w lo0 hi0 (k + 1) lo' hi' := by
  refine ⟨l', h', hlt, d1, d2, ?_⟩
  have e4 : ((4 ^ (k + 1) : Nat) : Rat) = ((4 ^ k : Nat) : Rat) * 4 := by rw [Nat.pow_succ]; exact_mod_cast rfl
  have e3 : ((3 ^ (k + 1) : Nat) : Rat) = ((3 ^ k : Nat) : Rat) * 3 := by rw [Nat.pow_succ]; exact_mod_cast rfl
  have p4 : (0 : Rat) ≤ ((4 ^ k : Nat) : Rat) := nat_nonneg _
  have hh := h.w
  rw [e4, e3]
  generalize ((4 ^ k : Nat) : Rat) = F at *
  generalize ((3 ^ k : Nat) : Rat) = T at *
  have m := Rat.mul_le_mul_of_nonneg_right hw p4
  grind
theorem srt_ends (h : SrT Lo Hi q c w lo0 hi0 k lo hi) : lo0 ≤ lo ∧ hi ≤ hi0 := by
  constructor
  · rcases h.low with e | ⟨e, _⟩ <;> grind
  · rcases h.high with e | ⟨e, _⟩ <;> grind
theorem srt_round {p : Nat} {t : Rat} (S : SrT Lo Hi q c w lo0 hi0 k lo hi) (hp : p ≤ 16) (ht : t * p2 (p + 2) = 1) (t0 : 0 < t) (hw : 4 * t < hi - lo) :
    ∃ m, m = (lo + hi) / 2 ∧ lo < m - t ∧ m - t < m ∧ m < m + t ∧ m + t < hi ∧ Ds c w (18 + w + (k + 1)) lo ∧ Ds c w (18 + w + (k + 1)) hi ∧ Ds c w (18 + w + (k + 1)) m ∧ Ds c w (18 + w + (k + 1)) (m - t) ∧ Ds c w (18 + w + (k + 1)) (m + t) ∧
      (hi - (m - t)) * 4 ≤ (hi - lo) * 3 ∧ (m + t - lo) * 4 ≤ (hi - lo) * 3 := by
  have dm := ds_mid S.dlo S.dhi
  have r1 := (ds_range S.dlo).1
  have r2 := (ds_range S.dhi).2
  refine ⟨_, rfl, by grind, by grind, by grind, by grind, ds_up S.dlo, ds_up S.dhi, dm, ?_, ?_, by grind, by grind⟩
  · exact ds_sub dm (by omega) ht (by grind)
  · exact ds_add dm (by omega) ht (by grind)
end
end Go.Proofs.YtecjelnpmcnbaaaGreat
namespace Go.Proofs.YtecjelnpmcnbaaaGreat
open Go.Ev
section
variable {k n m : Int} {sa sb : Bool} {na da nb db : List Nat} {Lo Hi : Tells}
set_option maxHeartbeats 8000000 in
theorem narrows_T {p w : Nat} (hp : p ≤ 16) {q to t c lo0 hi0 : Rat} (hw7 : w ≤ 7) (zc : szR c 10) (zq : szR q 1)
    (htt : t = to / 4) (ht : t * p2 (p + 2) = 1) (t0 : 0 < t) (hto : to = 4 * t) (h65 : 1 ≤ to * 65536) (z1 : szR to 1) (z2 : szR t 1) (S0 : SrT Lo Hi q c w lo0 hi0 0 lo0 hi0)
    (hcdf : ∀ x, (∃ J, J < 90 ∧ Ds c w J x) → lo0 < x → x < hi0 → CdfT (distV k n m sa na da sb nb db) Lo Hi x)
    (hgap : ∀ x y, lo0 < x → y < hi0 → 1 ≤ (y - x) * 131072 → NearT Lo Hi q x → NearT Lo Hi q y → False) :
    ∃ r exps, (∃ k' lo hi, SrT Lo Hi q c w lo0 hi0 k' lo hi ∧ k' ≤ 56 ∧ hi - lo ≤ to ∧ r = .bool true ∧ exps = [some (seC k n m sa na da sb nb db q lo hi), none]) ∧ FnI CX 28 [.imp (seC k n m sa na da sb nb db q lo0 hi0), .sv (rv to)] r exps := by
  have r4 := rat_Int 4 (by omega)
  have r2 := rat_Int 2 (by omega)
  have ov4 := q_over (RatA_rv z1) (RatA_rv (int_szR (n := 4) (by omega))) (by omega) (by omega) (by omega)
  have c4 : ((4 : Int) : Rat) = 4 := rfl
  have c2 : ((2 : Int) : Rat) = 2 := rfl
  rw [c4] at r4 ov4
  rw [← htt] at ov4
  rw [c2] at r2
  refine FnI_of (fn := Tryz.f28) (body := (Tryz.f28).body.get!) (by kernel_rfl) (by kernel_rfl) (by kernel_rfl) (fun _ => rfl) (Nat.le_of_ble_eq_true (by kernel_rfl)) ?_
  unfold Tryz.f28
  simp only [Option.get!_some, exp_side]
  repeat (first | (simp only [go_sem, N0]) | (simp (disch := (first | omega | (simp only [AL, List.length_map]; omega))) only [AR, AL, ifT, ifF, take_all, List.length_cons, List.length_nil, Int.reduceToNat, Int.reducePow, Nat.reducePow, N0]) | (refine wk_intro (by kernel_rfl) ?_) | (refine vp_draw (l := []) (by kernel_rfl) ?_) | (refine vf_of (by first | exact r4 | exact ov4) ?_))
  refine vp_loop_fam (fun m0 s => s.tmp 0 = .ptr 1000000 0 0 ∧ s.tmp 3 = .ptr 3 0 0 ∧ s.obj 3 0 = some [.bool (decide (to.num < 0)), natV (lim to.num.natAbs), natV (lim to.den)] ∧ s.tmp 5 = .ptr 5 0 0 ∧ s.obj 5 0 = some [.bool (decide (t.num < 0)), natV (lim t.num.natAbs), natV (lim t.den)] ∧
      ∃ k' lo hi, s.obj 1000000 0 = some (seC k n m sa na da sb nb db q lo hi) ∧ SrT Lo Hi q c w lo0 hi0 k' lo hi ∧ k' ≤ 56 ∧ m0 = 60 - k') 60 ?_ ?_
  · exact ⟨rfl, rfl, rfl, rfl, rfl, 0, lo0, hi0, rfl, S0, by omega, rfl⟩
  rintro m0 s ⟨i0, i3, o3, i5, o5, k', lo, hi, oS, S, hk, rfl⟩
  have zl : szR lo 20 := szR_mono (ds_sz S.dlo (by omega) (by omega) zc (by omega)) (by omega)
  have zh : szR hi 20 := szR_mono (ds_sz S.dhi (by omega) (by omega) zc (by omega)) (by omega)
  obtain ⟨_, _, ⟨rfl, rfl⟩, wd⟩ := wide_T (k := k) (n := n) (m := m) (sa := sa) (na := na) (da := da) (sb := sb) (nb := nb) (db := db) (q := q) zl zh
  have cw := rat_Cmp (RatA_rv (szR_sub zh zl (by omega))) (RatA_rv z1) (by omega) (by omega) (by omega)
  have ew := cmpR_gt (q := hi - lo) (r := to)
  by_cases hw : to < hi - lo
  · rw [decide_eq_true hw] at ew
    have hk39 := srt_k S (by grind)
    obtain ⟨md, hm, a1, a2, a3, a4, d1, d2, d3, d4, d5, w1, w2⟩ := srt_round S hp ht t0 (by rw [← hto]; exact hw)
    have ad := rat_Add (RatA_rv zl) (RatA_rv zh) (by omega) (by omega) (by omega)
    have zs := szR_add zl zh (by omega)
    have ov := q_over (RatA_rv zs) (RatA_rv (int_szR (n := 2) (by omega))) (by omega) (by omega) (by omega)
    rw [c2, ← hm] at ov
    have zm : szR md 20 := szR_mono (ds_sz d3 (by omega) (by omega) zc (by omega)) (by omega)
    have zm1 : szR (md - t) 20 := szR_mono (ds_sz d4 (by omega) (by omega) zc (by omega)) (by omega)
    have zm2 : szR (md + t) 20 := szR_mono (ds_sz d5 (by omega) (by omega) zc (by omega)) (by omega)
    obtain ⟨l0, h1⟩ := srt_ends S
    obtain ⟨_, _, ⟨b, lo1, hi1, rfl, rfl, cm⟩, tk⟩ := takes_T zq zm zl zh (hcdf (md) ⟨_, by omega, d3⟩ (by grind) (by grind)) (show lo < md by grind) (show md < hi by grind)
    have sb' := rat_Sub (RatA_rv zm) (RatA_rv z2) (by omega) (by omega) (by omega)
    have ad2 := rat_Add (RatA_rv zm) (RatA_rv z2) (by omega) (by omega) (by omega)
    obtain ⟨_, _, ⟨b2, lo2, hi2, rfl, rfl, cx⟩, tk2⟩ := takes_T zq zm1 zl zh (hcdf (md - t) ⟨_, by omega, d4⟩ (by grind) (by grind)) (show lo < md - t by grind) (show md - t < hi by grind)
    repeat (first | (simp only [go_sem, i0, i3, o3, i5, o5, oS]) | (simp (disch := (first | omega | (simp only [AL, List.length_map]; omega))) only [AR, AL, ifT, ifF, take_all, List.length_cons, List.length_nil, Int.reduceToNat, Int.reducePow, Nat.reducePow, i0, i3, o3, i5, o5, oS]) | (refine wk_intro (by kernel_rfl) ?_) | (refine vp_draw (l := []) (by kernel_rfl) ?_))
    refine vr_of wd (by kernel_rfl) (by kernel_rfl) ?_ (same_se _ _ _) ?_
    · simp only [go_sem, i0, i3, o3, i5, o5, oS]
    repeat (first | (simp only [go_sem, i0, i3, o3, i5, o5, oS, ew]) | (simp (disch := (first | omega | (simp only [AL, List.length_map]; omega))) only [AR, AL, ifT, ifF, take_all, List.length_cons, List.length_nil, Int.reduceToNat, Int.reducePow, Nat.reducePow, i0, i3, o3, i5, o5, oS, ew]) | (refine wk_intro (by kernel_rfl) ?_) | (refine vp_draw (l := []) (by kernel_rfl) ?_) | (refine vf_of (by first | exact cw | exact ad | exact r2 | exact ov) ?_))
    refine vi_of tk rfl ?_
    rcases cm with ⟨rfl, e1, e2, hc⟩ | ⟨rfl, e1, e2, hc⟩ | ⟨rfl, e1, e2, -⟩
    · have e1 := e1.symm; have e2 := e2.symm; subst e1 e2
      repeat (first | (simp only [go_sem, i0, i3, o3, i5, o5, oS]) | (simp (disch := (first | omega | (simp only [AL, List.length_map]; omega))) only [AR, AL, ifT, ifF, take_all, List.length_cons, List.length_nil, Int.reduceToNat, Int.reducePow, Nat.reducePow, i0, i3, o3, i5, o5, oS]) | (refine wk_intro (by kernel_rfl) ?_) | (refine vp_draw (l := []) (by kernel_rfl) ?_))
      exact ⟨60 - (k' + 1), by omega, k' + 1, _, _, rfl, srt_next S (.inr ⟨by grind, hc⟩) S.high (by grind) d3 d2 (by grind), by omega, rfl⟩
    · have e1 := e1.symm; have e2 := e2.symm; subst e1 e2
      repeat (first | (simp only [go_sem, i0, i3, o3, i5, o5, oS]) | (simp (disch := (first | omega | (simp only [AL, List.length_map]; omega))) only [AR, AL, ifT, ifF, take_all, List.length_cons, List.length_nil, Int.reduceToNat, Int.reducePow, Nat.reducePow, i0, i3, o3, i5, o5, oS]) | (refine wk_intro (by kernel_rfl) ?_) | (refine vp_draw (l := []) (by kernel_rfl) ?_))
      exact ⟨60 - (k' + 1), by omega, k' + 1, _, _, rfl, srt_next S S.low (.inr ⟨by grind, hc⟩) (by grind) d1 d3 (by grind), by omega, rfl⟩
    · have e1 := e1.symm; have e2 := e2.symm; subst e1 e2
      repeat (first | (simp only [go_sem, i0, i3, o3, i5, o5, oS]) | (simp (disch := (first | omega | (simp only [AL, List.length_map]; omega))) only [AR, AL, ifT, ifF, take_all, List.length_cons, List.length_nil, Int.reduceToNat, Int.reducePow, Nat.reducePow, i0, i3, o3, i5, o5, oS]) | (refine wk_intro (by kernel_rfl) ?_) | (refine vp_draw (l := []) (by kernel_rfl) ?_) | (refine vf_of (by first | exact sb') ?_))
      refine vi_of tk2 rfl ?_
      rcases cx with ⟨rfl, e1, e2, hc⟩ | ⟨rfl, e1, e2, hc⟩ | ⟨rfl, e1, e2, hc⟩
      · have e1 := e1.symm; have e2 := e2.symm; subst e1 e2
        obtain ⟨_, _, ⟨b3, lo3, hi3, rfl, rfl, cy⟩, tk3⟩ := takes_T zq zm2 zm1 zh (hcdf (md + t) ⟨_, by omega, d5⟩ (by grind) (by grind)) (show md - t < md + t by grind) (show md + t < hi by grind)
        repeat (first | (simp only [go_sem, i0, i3, o3, i5, o5, oS]) | (simp (disch := (first | omega | (simp only [AL, List.length_map]; omega))) only [AR, AL, ifT, ifF, take_all, List.length_cons, List.length_nil, Int.reduceToNat, Int.reducePow, Nat.reducePow, i0, i3, o3, i5, o5, oS]) | (refine wk_intro (by kernel_rfl) ?_) | (refine vp_draw (l := []) (by kernel_rfl) ?_) | (refine vf_of (by first | exact ad2) ?_))
        refine vi_of tk3 rfl ?_
        rcases cy with ⟨rfl, e3, e4, hc3⟩ | ⟨rfl, e3, e4, hc3⟩ | ⟨rfl, e3, e4, -⟩
        · have e3 := e3.symm; have e4 := e4.symm; subst e3 e4
          repeat (first | (simp only [go_sem, i0, i3, o3, i5, o5, oS, Bool.not_true, Bool.not_false]) | (simp (disch := (first | omega | (simp only [AL, List.length_map]; omega))) only [AR, AL, ifT, ifF, take_all, List.length_cons, List.length_nil, Int.reduceToNat, Int.reducePow, Nat.reducePow, i0, i3, o3, i5, o5, oS, Bool.not_true, Bool.not_false]) | (refine wk_intro (by kernel_rfl) ?_) | (refine vp_draw (l := []) (by kernel_rfl) ?_))
          exact ⟨60 - (k' + 1), by omega, k' + 1, _, _, rfl, srt_next S (.inr ⟨by grind, hc3⟩) S.high (by grind) d5 d2 (by grind), by omega, rfl⟩
        · have e3 := e3.symm; have e4 := e4.symm; subst e3 e4
          repeat (first | (simp only [go_sem, i0, i3, o3, i5, o5, oS, Bool.not_true, Bool.not_false]) | (simp (disch := (first | omega | (simp only [AL, List.length_map]; omega))) only [AR, AL, ifT, ifF, take_all, List.length_cons, List.length_nil, Int.reduceToNat, Int.reducePow, Nat.reducePow, i0, i3, o3, i5, o5, oS, Bool.not_true, Bool.not_false]) | (refine wk_intro (by kernel_rfl) ?_) | (refine vp_draw (l := []) (by kernel_rfl) ?_))
          exact ⟨60 - (k' + 1), by omega, k' + 1, _, _, rfl, srt_next S (.inr ⟨by grind, hc⟩) (.inr ⟨by grind, hc3⟩) (by grind) d4 d5 (by grind), by omega, rfl⟩
        · have e3 := e3.symm; have e4 := e4.symm; subst e3 e4
          repeat (first | (simp only [go_sem, i0, i3, o3, i5, o5, oS, Bool.not_true, Bool.not_false]) | (simp (disch := (first | omega | (simp only [AL, List.length_map]; omega))) only [AR, AL, ifT, ifF, take_all, List.length_cons, List.length_nil, Int.reduceToNat, Int.reducePow, Nat.reducePow, i0, i3, o3, i5, o5, oS, Bool.not_true, Bool.not_false]) | (refine wk_intro (by kernel_rfl) ?_) | (refine vp_draw (l := []) (by kernel_rfl) ?_))
          exact ⟨60 - (k' + 1), by omega, k' + 1, _, _, rfl, srt_next S (.inr ⟨by grind, hc⟩) S.high (by grind) d4 d2 w1, by omega, rfl⟩
      · have e1 := e1.symm; have e2 := e2.symm; subst e1 e2
        obtain ⟨_, _, ⟨rfl, rfl⟩, tk3⟩ := takes_outT (k := k) (n := n) (m := m) (sa := sa) (na := na) (da := da) (sb := sb) (nb := nb) (db := db) (q := q) zm2 zl zm1 (show lo < md + t by grind) (show md - t ≤ md + t by grind)
        repeat (first | (simp only [go_sem, i0, i3, o3, i5, o5, oS]) | (simp (disch := (first | omega | (simp only [AL, List.length_map]; omega))) only [AR, AL, ifT, ifF, take_all, List.length_cons, List.length_nil, Int.reduceToNat, Int.reducePow, Nat.reducePow, i0, i3, o3, i5, o5, oS]) | (refine wk_intro (by kernel_rfl) ?_) | (refine vp_draw (l := []) (by kernel_rfl) ?_) | (refine vf_of (by first | exact ad2) ?_))
        refine vi_of tk3 rfl ?_
        repeat (first | (simp only [go_sem, i0, i3, o3, i5, o5, oS, Bool.not_true, Bool.not_false]) | (simp (disch := (first | omega | (simp only [AL, List.length_map]; omega))) only [AR, AL, ifT, ifF, take_all, List.length_cons, List.length_nil, Int.reduceToNat, Int.reducePow, Nat.reducePow, i0, i3, o3, i5, o5, oS, Bool.not_true, Bool.not_false]) | (refine wk_intro (by kernel_rfl) ?_) | (refine vp_draw (l := []) (by kernel_rfl) ?_))
        exact ⟨60 - (k' + 1), by omega, k' + 1, _, _, rfl, srt_next S S.low (.inr ⟨by grind, hc⟩) (by grind) d1 d4 (by grind), by omega, rfl⟩
      · have e1 := e1.symm; have e2 := e2.symm; subst e1 e2
        obtain ⟨_, _, ⟨b3, lo3, hi3, rfl, rfl, cy⟩, tk3⟩ := takes_T zq zm2 zl zh (hcdf (md + t) ⟨_, by omega, d5⟩ (by grind) (by grind)) (show lo < md + t by grind) (show md + t < hi by grind)
        repeat (first | (simp only [go_sem, i0, i3, o3, i5, o5, oS]) | (simp (disch := (first | omega | (simp only [AL, List.length_map]; omega))) only [AR, AL, ifT, ifF, take_all, List.length_cons, List.length_nil, Int.reduceToNat, Int.reducePow, Nat.reducePow, i0, i3, o3, i5, o5, oS]) | (refine wk_intro (by kernel_rfl) ?_) | (refine vp_draw (l := []) (by kernel_rfl) ?_) | (refine vf_of (by first | exact ad2) ?_))
        refine vi_of tk3 rfl ?_
        rcases cy with ⟨rfl, e3, e4, hc3⟩ | ⟨rfl, e3, e4, hc3⟩ | ⟨rfl, e3, e4, hc3⟩
        · have e3 := e3.symm; have e4 := e4.symm; subst e3 e4
          repeat (first | (simp only [go_sem, i0, i3, o3, i5, o5, oS, Bool.not_true, Bool.not_false]) | (simp (disch := (first | omega | (simp only [AL, List.length_map]; omega))) only [AR, AL, ifT, ifF, take_all, List.length_cons, List.length_nil, Int.reduceToNat, Int.reducePow, Nat.reducePow, i0, i3, o3, i5, o5, oS, Bool.not_true, Bool.not_false]) | (refine wk_intro (by kernel_rfl) ?_) | (refine vp_draw (l := []) (by kernel_rfl) ?_))
          exact ⟨60 - (k' + 1), by omega, k' + 1, _, _, rfl, srt_next S (.inr ⟨by grind, hc3⟩) S.high (by grind) d5 d2 (by grind), by omega, rfl⟩
        · have e3 := e3.symm; have e4 := e4.symm; subst e3 e4
          repeat (first | (simp only [go_sem, i0, i3, o3, i5, o5, oS, Bool.not_true, Bool.not_false]) | (simp (disch := (first | omega | (simp only [AL, List.length_map]; omega))) only [AR, AL, ifT, ifF, take_all, List.length_cons, List.length_nil, Int.reduceToNat, Int.reducePow, Nat.reducePow, i0, i3, o3, i5, o5, oS, Bool.not_true, Bool.not_false]) | (refine wk_intro (by kernel_rfl) ?_) | (refine vp_draw (l := []) (by kernel_rfl) ?_))
          exact ⟨60 - (k' + 1), by omega, k' + 1, _, _, rfl, srt_next S S.low (.inr ⟨by grind, hc3⟩) (by grind) d1 d5 w2, by omega, rfl⟩
        · exact (hgap (md - t) (md + t) (by grind) (by grind) (by grind) hc hc3).elim
  · rw [decide_eq_false hw] at ew
    repeat (first | (simp only [go_sem, i0, i3, o3, i5, o5, oS]) | (simp (disch := (first | omega | (simp only [AL, List.length_map]; omega))) only [AR, AL, ifT, ifF, take_all, List.length_cons, List.length_nil, Int.reduceToNat, Int.reducePow, Nat.reducePow, i0, i3, o3, i5, o5, oS]) | (refine wk_intro (by kernel_rfl) ?_) | (refine vp_draw (l := []) (by kernel_rfl) ?_))
    refine vr_of wd (by kernel_rfl) (by kernel_rfl) ?_ (same_se _ _ _) ?_
    · simp only [go_sem, i0, i3, o3, i5, o5, oS]
    repeat (first | (simp only [go_sem, i0, i3, o3, i5, o5, oS, ew]) | (simp (disch := (first | omega | (simp only [AL, List.length_map]; omega))) only [AR, AL, ifT, ifF, take_all, List.length_cons, List.length_nil, Int.reduceToNat, Int.reducePow, Nat.reducePow, i0, i3, o3, i5, o5, oS, ew]) | (refine wk_intro (by kernel_rfl) ?_) | (refine vp_draw (l := []) (by kernel_rfl) ?_) | (refine vf_of (by first | exact cw) ?_))
    exact ⟨_, _, ⟨k', lo, hi, S, hk, by grind, rfl, rfl⟩, rfl, rfl⟩
end
end Go.Proofs.YtecjelnpmcnbaaaGreat
namespace Go.Proofs.YtecjelnpmcnbaaaGreat
open Go.Ev
section
variable {k n m : Int} {sa sb : Bool} {na da nb db : List Nat} {Lo Hi : Tells}
theorem side_endT {q lo hi x l h : Rat} {t : Int} (zq : szR q 1) (c : Go.Ev.Fn CX 62 [distV k n m sa na da sb nb db, rv x, .int .i64 32] (.tup [ballR l h, .int .i64 0])) (y1 : szR l 500) (y2 : szR h 500)
    (hx : (h < q ∧ t = -1) ∨ (¬ h < q ∧ q < l ∧ t = 1)) :
    ∃ r exps, (r = .int .i64 t ∧ exps = [some (seC k n m sa na da sb nb db q lo hi), none]) ∧ FnI CX 27 [.imp (seC k n m sa na da sb nb db q lo hi), .sv (rv x)] r exps := by
  have sd := q_Side y1 y2 zq (by omega) (by omega) (by omega)
  have key : Go.Ev.Fn CX 63 [ballR l h, ballR q q] (.int .i64 t) := by
    unfold sideR at sd
    rcases hx with ⟨h1, rfl⟩ | ⟨h1, h2, rfl⟩
    · rw [if_pos h1] at sd; exact sd
    · rw [if_neg h1, if_pos h2] at sd; exact sd
  have ht : t = -1 ∨ t = 1 := by rcases hx with ⟨-, h⟩ | ⟨-, -, h⟩ <;> simp [h]
  clear hx sd y1 y2
  refine FnI_of (fn := Tryz.f27) (body := (Tryz.f27).body.get!) (by kernel_rfl) (by kernel_rfl) (by kernel_rfl) (fun _ => rfl) (Nat.le_of_ble_eq_true (by kernel_rfl)) ?_
  unfold Tryz.f27
  simp only [Option.get!_some, exp_side]
  repeat (first | (simp only [go_sem, N0]) | (simp (disch := (first | omega | (simp only [AL, List.length_map]; omega))) only [AR, AL, ifT, ifF, take_all, List.length_cons, List.length_nil, Int.reduceToNat, Int.reducePow, Nat.reducePow, N0]) | (refine wk_intro (by kernel_rfl) ?_))
  refine vp_loop_inv (fun s => s.tmp 0 = .ptr 1000000 0 0 ∧ s.obj 1000000 0 = some (seC k n m sa na da sb nb db q lo hi) ∧ s.tmp 3 = .ptr 3 0 0 ∧ s.obj 3 0 = some [.bool (decide (x.num < 0)), natV (lim x.num.natAbs), natV (lim x.den)] ∧ s.tmp 5 = .sv (.int .i64 32))
    (fun s => 0) ?_ ?_
  · exact ⟨rfl, rfl, rfl, rfl, rfl⟩
  rintro s ⟨i0, iO, i3, oX, i5⟩
  rcases ht with rfl | rfl
  · repeat (first | (simp only [go_sem, i0, iO, i3, oX, i5]) | (simp (disch := (first | omega | (simp only [AL, List.length_map]; omega))) only [AR, AL, ifT, ifF, take_all, List.length_cons, List.length_nil, Int.reduceToNat, Int.reducePow, Nat.reducePow, i0, iO, i3, oX, i5]) | (refine wk_intro (by kernel_rfl) ?_) | (refine vp_draw (l := []) (by kernel_rfl) ?_))
    repeat (first | (simp only [go_sem, i0, iO, i3, oX, i5]) | (simp (disch := (first | omega | (simp only [AL, List.length_map]; omega))) only [AR, AL, ifT, ifF, take_all, List.length_cons, List.length_nil, Int.reduceToNat, Int.reducePow, Nat.reducePow, i0, iO, i3, oX, i5]) | (refine wk_intro (by kernel_rfl) ?_) | (refine vp_draw (l := []) (by kernel_rfl) ?_) | (refine vf_of (by first | exact c | exact key) ?_))
    exact ⟨_, _, ⟨rfl, rfl⟩, rfl, rfl⟩
  · repeat (first | (simp only [go_sem, i0, iO, i3, oX, i5]) | (simp (disch := (first | omega | (simp only [AL, List.length_map]; omega))) only [AR, AL, ifT, ifF, take_all, List.length_cons, List.length_nil, Int.reduceToNat, Int.reducePow, Nat.reducePow, i0, iO, i3, oX, i5]) | (refine wk_intro (by kernel_rfl) ?_) | (refine vp_draw (l := []) (by kernel_rfl) ?_))
    repeat (first | (simp only [go_sem, i0, iO, i3, oX, i5]) | (simp (disch := (first | omega | (simp only [AL, List.length_map]; omega))) only [AR, AL, ifT, ifF, take_all, List.length_cons, List.length_nil, Int.reduceToNat, Int.reducePow, Nat.reducePow, i0, iO, i3, oX, i5]) | (refine wk_intro (by kernel_rfl) ?_) | (refine vp_draw (l := []) (by kernel_rfl) ?_) | (refine vf_of (by first | exact c | exact key) ?_))
    exact ⟨_, _, ⟨rfl, rfl⟩, rfl, rfl⟩
set_option maxHeartbeats 4000000 in
theorem of_T {p w : Nat} (hp : p ≤ 16) {q c lo0 hi0 l1 h1 l2 h2 : Rat} {v : SV} (hw7 : w ≤ 7) (zc : szR c 10) (hq : RatA v q 1) (q0 : 0 < q) (q1 : q < 1)
    (ck : Go.Ev.Fn CX 20 [distV k n m sa na da sb nb db] (.int .i64 0)) (ct : Go.Ev.Fn CX 21 [distV k n m sa na da sb nb db] (.bool false))
    (iw : Go.Ev.Fn CX 24 [distV k n m sa na da sb nb db] (.bool false)) (st : Go.Ev.Fn CX 25 [distV k n m sa na da sb nb db] (.tup [rv lo0, rv hi0]))
    (c1 : Go.Ev.Fn CX 62 [distV k n m sa na da sb nb db, rv lo0, .int .i64 32] (.tup [ballR l1 h1, .int .i64 0])) (y1 : szR l1 500) (y2 : szR h1 500) (g1 : h1 < q)
    (c2 : Go.Ev.Fn CX 62 [distV k n m sa na da sb nb db, rv hi0, .int .i64 32] (.tup [ballR l2 h2, .int .i64 0])) (y3 : szR l2 500) (y4 : szR h2 500) (g2 : q < l2) (g3 : ¬ h2 < q)
    (S0 : SrT Lo Hi q c w lo0 hi0 0 lo0 hi0)
    (hcdf : ∀ x, (∃ J, J < 90 ∧ Ds c w J x) → lo0 < x → x < hi0 → CdfT (distV k n m sa na da sb nb db) Lo Hi x)
    (hgap : ∀ x y, lo0 < x → y < hi0 → 1 ≤ (y - x) * 131072 → NearT Lo Hi q x → NearT Lo Hi q y → False) :
    ∃ k' lo hi, SrT Lo Hi q c w lo0 hi0 k' lo hi ∧ k' ≤ 56 ∧ Go.Ev.Fn CX 8 [distV k n m sa na da sb nb db, v, .int .i64 (p : Int)] (.tup [ballR lo hi, .int .i64 0]) := by
  have zq := szR_of hq (by omega)
  obtain ⟨to, t, htoE, htt, ht, t0, hto, h65, z1, z2⟩ := to_facts hp
  obtain ⟨_, _, ⟨k', lo, hi, S, hk, hw, rfl, rfl⟩, nr⟩ := narrows_T hp hw7 zc zq htt ht t0 hto h65 z1 z2 S0 hcdf hgap
  refine ⟨k', lo, hi, S, hk, ?_⟩
  obtain ⟨_, _, ⟨rfl, rfl⟩, sl⟩ := side_endT (lo := lo0) (hi := hi0) (t := -1) zq c1 y1 y2 (.inl ⟨g1, rfl⟩)
  obtain ⟨_, _, ⟨rfl, rfl⟩, sh⟩ := side_endT (lo := lo0) (hi := hi0) (t := 1) zq c2 y3 y4 (.inr ⟨g3, g2, rfl⟩)
  have i0 := rat_Int 0 (by omega)
  have i1 := rat_Int 1 (by omega)
  have d0 := rat_Cmp hq (RatA_rv (int_szR (n := 0) (by omega))) (by omega) (by omega) (by omega)
  have d1 := rat_Cmp hq (RatA_rv (int_szR (n := 1) (by omega))) (by omega) (by omega) (by omega)
  have e0 := cmpR_le (q := q) (r := ((0 : Int) : Rat))
  have e1 := cmpR_ge (q := q) (r := ((1 : Int) : Rat))
  have k0 : ((0 : Int) : Rat) = 0 := rfl
  have k1 : ((1 : Int) : Rat) = 1 := rfl
  rw [k0] at i0 d0 e0
  rw [k1] at i1 d1 e1
  rw [decide_eq_false (show ¬ q ≤ 0 by grind)] at e0
  rw [decide_eq_false (show ¬ 1 ≤ q by grind)] at e1
  have bo := ball_Of hq (by omega)
  have bt := q_bit p (by omega)
  rw [← htoE] at bt
  have x1 : (if (0 : Int) > (p : Int) then (0 : Int) else (p : Int)) = (p : Int) := if_neg (by omega)
  have x2 : (if (40 : Int) < (p : Int) then (40 : Int) else (p : Int)) = (p : Int) := if_neg (by omega)
  clear k0 k1 S hk hw ht htt t0 hto h65 z1 z2 htoE q0 q1 S0 hcdf hgap g1 g2 g3 c1 c2 y1 y2 y3 y4 zq
  obtain ⟨sq, nq, dq, rfl, -⟩ := hq
  refine Go.Ev.Fn.intro (fn := Tryz.f8) (body := (Tryz.f8).body.get!) (by kernel_rfl) (by kernel_rfl) (by kernel_rfl) (fun _ => rfl) (Nat.le_of_ble_eq_true (by kernel_rfl)) ?_; unfold Tryz.f8; simp only [Option.get!_some]
  repeat (first | (simp only [go_sem, e0, e1]) | (simp (disch := (first | omega | (simp only [AL, List.length_map]; omega))) only [AR, AL, ifT, ifF, take_all, List.length_cons, List.length_nil, Int.reduceToNat, Int.reducePow, Nat.reducePow, e0, e1]) | (refine wk_intro (by kernel_rfl) ?_) | (refine vp_draw (id := 6) (l := []) (by kernel_rfl) ?_) | (refine vp_draw (id := 11) (l := []) (by kernel_rfl) ?_) | (refine vp_draw (id := 14) (l := []) (by kernel_rfl) ?_) | (refine vf_of (by first | exact ck | exact ct | exact i0 | exact d0 | exact i1 | exact d1 | exact iw | exact st | exact bo) ?_))
  refine vi_of sl rfl ?_
  repeat (first | (simp only [go_sem]) | (simp (disch := (first | omega | (simp only [AL, List.length_map]; omega))) only [AR, AL, ifT, ifF, take_all, List.length_cons, List.length_nil, Int.reduceToNat, Int.reducePow, Nat.reducePow]) | (refine wk_intro (by kernel_rfl) ?_) | (refine vp_draw (id := 6) (l := []) (by kernel_rfl) ?_) | (refine vp_draw (id := 11) (l := []) (by kernel_rfl) ?_) | (refine vp_draw (id := 14) (l := []) (by kernel_rfl) ?_))
  refine vi_of sh rfl ?_
  repeat (first | (simp only [go_sem, x1, x2]) | (simp (disch := (first | omega | (simp only [AL, List.length_map]; omega))) only [AR, AL, ifT, ifF, take_all, List.length_cons, List.length_nil, Int.reduceToNat, Int.reducePow, Nat.reducePow, x1, x2]) | (refine wk_intro (by kernel_rfl) ?_) | (refine vp_draw (id := 6) (l := []) (by kernel_rfl) ?_) | (refine vp_draw (id := 11) (l := []) (by kernel_rfl) ?_) | (refine vp_draw (id := 14) (l := []) (by kernel_rfl) ?_) | (refine vf_of (by first | exact bt) ?_))
  refine vi_of nr rfl ?_
  repeat (first | (simp only [go_sem, Bool.not_true]) | (simp (disch := (first | omega | (simp only [AL, List.length_map]; omega))) only [AR, AL, ifT, ifF, take_all, List.length_cons, List.length_nil, Int.reduceToNat, Int.reducePow, Nat.reducePow, Bool.not_true]) | (refine wk_intro (by kernel_rfl) ?_) | (refine vp_draw (id := 6) (l := []) (by kernel_rfl) ?_) | (refine vp_draw (id := 11) (l := []) (by kernel_rfl) ?_) | (refine vp_draw (id := 14) (l := []) (by kernel_rfl) ?_))
end
end Go.Proofs.YtecjelnpmcnbaaaGreat
namespace Go.Proofs.YtecjelnpmcnbaaaGreat
open Go.Ev
section
variable {k n m : Int} {sa sb : Bool} {na da nb db : List Nat} {a b : Rat} {M : Nat}
theorem cdf_held {v : SV} {x l h : Rat} {L P Q : Nat} (hA : RatA (ratV sa na da) a M) (hB : RatA (ratV sb nb db) b M) (hM : 1 ≤ M) (hM2 : M ≤ 1000) (hc : chkD k n m a b = 0) (hx : RatA v x L) (hP : P ≤ 1000000) (hQ : Q = if P ≤ 200 then P else 200)
    (f : Go.Ev.Fn CX 109 [distV k n m sa na da sb nb db, v, .int .i64 (Q : Int)] (.tup [ballR l h, .bool true])) :
    Go.Ev.Fn CX 62 [distV k n m sa na da sb nb db, v, .int .i64 (P : Int)] (.tup [ballR l h, .int .i64 0]) := by
  have c := dist_Check (k := k) (n := n) (m := m) hA hB hM (by omega)
  rw [hc] at c
  have x1 : (if (0 : Int) > (P : Int) then (0 : Int) else (P : Int)) = (P : Int) := if_neg (by omega)
  have x2 : (if (200 : Int) < (P : Int) then (200 : Int) else (P : Int)) = (Q : Int) := by
    subst hQ
    by_cases g : P ≤ 200
    · rw [if_neg (by omega), if_pos g]
    · rw [if_pos (by omega), if_neg g]; rfl
  clear hA hB
  obtain ⟨s, nn, dd, rfl, -⟩ := hx
  refine Go.Ev.Fn.intro (fn := Tryz.f62) (body := (Tryz.f62).body.get!) (by kernel_rfl) (by kernel_rfl) (by kernel_rfl) (fun _ => rfl) (Nat.le_of_ble_eq_true (by kernel_rfl)) ?_; unfold Tryz.f62; simp only [Option.get!_some]
  repeat (first | (simp only [go_sem, x1, x2, Bool.not_true]) | (simp (disch := (first | omega | (simp only [AL, List.length_map]; omega))) only [AR, AL, ifT, ifF, take_all, List.length_cons, List.length_nil, Int.reduceToNat, Int.reducePow, Nat.reducePow, x1, x2, Bool.not_true]) | (refine wk_intro (by kernel_rfl) ?_) | (refine vf_of (by first | exact c | exact f) ?_))
theorem nm_Counts : Go.Ev.Fn CX 21 [distV 1 n m sa na da sb nb db] (.bool false) := by
  refine Go.Ev.Fn.intro (fn := Tryz.f21) (body := (Tryz.f21).body.get!) (by kernel_rfl) (by kernel_rfl) (by kernel_rfl) (fun _ => rfl) (Nat.le_of_ble_eq_true (by kernel_rfl)) ?_; unfold Tryz.f21; simp only [Option.get!_some]
  repeat (first | (simp only [go_sem]) | (simp (disch := (first | omega | (simp only [AL, List.length_map]; omega))) only [AR, AL, ifT, ifF, take_all, List.length_cons, List.length_nil, Int.reduceToNat, Int.reducePow, Nat.reducePow]) | (refine wk_intro (by kernel_rfl) ?_))
theorem nm_isWide (hB : RatA (ratV sb nb db) 3 1) : Go.Ev.Fn CX 24 [distV 1 n m sa na da sb nb db] (.bool false) := by
  have i := rat_Int 1048576 (by omega)
  have c := rat_Cmp hB (RatA_rv (int_szR (n := 1048576) (by omega))) (by omega) (by omega) (by omega)
  have e := cmpR_gt (q := 3) (r := ((1048576 : Int) : Rat))
  rw [decide_eq_false (show ¬ ((1048576 : Int) : Rat) < 3 by decide)] at e
  clear hB
  refine Go.Ev.Fn.intro (fn := Tryz.f24) (body := (Tryz.f24).body.get!) (by kernel_rfl) (by kernel_rfl) (by kernel_rfl) (fun _ => rfl) (Nat.le_of_ble_eq_true (by kernel_rfl)) ?_; unfold Tryz.f24; simp only [Option.get!_some]
  repeat (first | (simp only [go_sem, e]) | (simp (disch := (first | omega | (simp only [AL, List.length_map]; omega))) only [AR, AL, ifT, ifF, take_all, List.length_cons, List.length_nil, Int.reduceToNat, Int.reducePow, Nat.reducePow, e]) | (refine wk_intro (by kernel_rfl) ?_) | (refine vp_draw (id := 3) (l := []) (by kernel_rfl) ?_) | (refine vp_draw (id := 6) (l := []) (by kernel_rfl) ?_) | (refine vf_of (by first | exact i | exact c) ?_))
theorem nm_stretch (hA : RatA (ratV sa na da) a 1) (hB : RatA (ratV sb nb db) 3 1) : Go.Ev.Fn CX 25 [distV 1 n m sa na da sb nb db] (.tup [rv (a - 24), rv (a + 24)]) := by
  have i := rat_Int 8 (by omega)
  have z8 := int_szR (n := 8) (by omega)
  have z3 := szR_of hB (by omega)
  have zm := szR_mul z8 z3 (by omega)
  have mu := rat_Mul (RatA_rv z8) hB (by omega) (by omega) (by omega)
  have sb' := rat_Sub hA (RatA_rv zm) (by omega) (by omega) (by omega)
  have ad := rat_Add hA (RatA_rv zm) (by omega) (by omega) (by omega)
  have e : ((8 : Int) : Rat) * 3 = 24 := by decide +kernel
  rw [e] at mu sb' ad
  generalize (24 : Rat) = y at *
  clear hA hB z8 z3 zm e
  generalize a - y = u at *
  generalize a + y = w at *
  refine Go.Ev.Fn.intro (fn := Tryz.f25) (body := (Tryz.f25).body.get!) (by kernel_rfl) (by kernel_rfl) (by kernel_rfl) (fun _ => rfl) (Nat.le_of_ble_eq_true (by kernel_rfl)) ?_; unfold Tryz.f25; simp only [Option.get!_some]
  repeat (first | (simp only [go_sem]) | (simp (disch := (first | omega | (simp only [AL, List.length_map]; omega))) only [AR, AL, ifT, ifF, take_all, List.length_cons, List.length_nil, Int.reduceToNat, Int.reducePow, Nat.reducePow]) | (refine wk_intro (by kernel_rfl) ?_) | (refine vp_draw (id := 3) (l := []) (by kernel_rfl) ?_) | (refine vp_draw (id := 4) (l := []) (by kernel_rfl) ?_) | (refine vp_draw (id := 7) (l := []) (by kernel_rfl) ?_) | (refine vf_of (by first | exact i | exact mu | exact sb' | exact ad) ?_))
theorem phi_N {z : Rat} {Q : Nat} (hz : szR z 3) (h1 : -8 ≤ z) (h8 : z ≤ 8) (hQ : Q ≤ 104 ∨ Q = 128 ∨ Q = 200) :
    ∃ l h : Rat, Go.Ev.Fn CX 149 [rv z, .int .i64 (Q : Int)] (.tup [ballR l h, .bool true]) ∧ szR l 500 ∧ szR h 500 ∧ (h - l) * p2 Q ≤ 1 ∧ LoN z l ∧ HiN z h := by
  by_cases e : z = 0
  · subst e
    refine ⟨1 / 2, 1 / 2, bell_Phi0 (RatA_rv hz), szR_mono hlf_len (by omega), szR_mono hlf_len (by omega), ?_, .inl ⟨rfl, rfl⟩, .inl ⟨rfl, rfl⟩⟩
    rw [Rat.sub_self, Rat.zero_mul]
    decide
  rcases Rat.le_total (a := 0) (b := z) with g | g
  · obtain ⟨l, h, r1, r2, t1, t2, t3, w, k1, k2, k3, k4, kk, f1, f2⟩ := bell_PhiE (pI := (Q : Int)) hz (by grind) h8 (.inr rfl) hQ
    have R : RtP r1 r2 := ⟨k1, k2, k3, k4⟩
    refine ⟨_, _, f1 _ (RatA_rv hz), szR_mono (szR_add hlf_len t2 (by omega)) (by omega), szR_mono (szR_add hlf_len t3 (by omega)) (by omega), ?_, .inr (.inl ⟨by grind, r1, r2, R, ?_⟩), .inr (.inl ⟨by grind, r1, r2, R, ?_⟩)⟩
    · generalize (1 / 2 : Rat) = c
      rw [show c + h - (c + l) = h - l by grind]
      exact w
    · intro r i1 i2
      obtain ⟨s, hs⟩ := kk r i1 i2
      refine ⟨s, fun L hL => ?_⟩
      have := (hs L hL).1
      generalize (1 / 2 : Rat) = c
      grind
    · intro r i1 i2
      obtain ⟨s, hs⟩ := kk r i1 i2
      refine ⟨s, fun L hL => ?_⟩
      have := (hs L hL).2
      generalize (1 / 2 : Rat) = c
      grind
  · have zn := szR_neg hz
    obtain ⟨l, h, r1, r2, t1, t2, t3, w, k1, k2, k3, k4, kk, f1, f2⟩ := bell_PhiE (z := -z) (pI := (Q : Int)) zn (by grind) (by grind) (.inr rfl) hQ
    have hv' : RatA (rv z) (- -z) 3 := by rw [Rat.neg_neg]; exact RatA_rv hz
    have R : RtP r1 r2 := ⟨k1, k2, k3, k4⟩
    refine ⟨_, _, f2 _ hv', szR_mono (szR_add hlf_len (szR_neg t3) (by omega)) (by omega), szR_mono (szR_add hlf_len (szR_neg t2) (by omega)) (by omega), ?_, .inr (.inr ⟨by grind, r1, r2, R, ?_⟩), .inr (.inr ⟨by grind, r1, r2, R, ?_⟩)⟩
    · generalize (1 / 2 : Rat) = c
      rw [show c + -l - (c + -h) = h - l by grind]
      exact w
    · intro r i1 i2
      obtain ⟨s, hs⟩ := kk r i1 i2
      refine ⟨s, fun L hL => ?_⟩
      have := (hs L hL).2
      generalize (1 / 2 : Rat) = c
      grind
    · intro r i1 i2
      obtain ⟨s, hs⟩ := kk r i1 i2
      refine ⟨s, fun L hL => ?_⟩
      have := (hs L hL).1
      generalize (1 / 2 : Rat) = c
      grind
def LoX (a : Rat) : Tells := fun x l => LoN ((x - a) / 3) l
def HiX (a : Rat) : Tells := fun x h => HiN ((x - a) / 3) h
theorem nm_Cdf {x : Rat} {L P Q : Nat} (hA : RatA (ratV sa na da) a 1) (hB : RatA (ratV sb nb db) 3 1) (zx : szR x L) (hL : 1 ≤ L) (hL2 : L ≤ 100) (hz : szR ((x - a) / 3) 3) (h1 : -8 ≤ (x - a) / 3) (h8 : (x - a) / 3 ≤ 8) (hP : P = 32 ∨ P = 64 ∨ P = 128 ∨ P = 256) (hQ : Q = if P ≤ 200 then P else 200) :
    ∃ l h : Rat, Go.Ev.Fn CX 62 [distV 1 0 0 sa na da sb nb db, rv x, .int .i64 (P : Int)] (.tup [ballR l h, .int .i64 0]) ∧ szR l 500 ∧ szR h 500 ∧ (h - l) * p2 Q ≤ 1 ∧ LoX a x l ∧ HiX a x h := by
  have hQ2 : Q ≤ 104 ∨ Q = 128 ∨ Q = 200 := by
    rcases hP with rfl | rfl | rfl | rfl
    · rw [if_pos (by omega)] at hQ; omega
    · rw [if_pos (by omega)] at hQ; omega
    · rw [if_pos (by omega)] at hQ; omega
    · rw [if_neg (by omega)] at hQ; omega
  obtain ⟨l, h, f, z1, z2, w, A, B⟩ := phi_N hz h1 h8 hQ2
  refine ⟨l, h, ?_, z1, z2, w, A, B⟩
  exact cdf_held (P := P) (Q := Q) hA hB (by omega) (by omega) (chk_normal (by decide)) (RatA_rv zx) (by omega) hQ (chance_normal hA hB (by omega) (by omega) (RatA_rv zx) hL (by omega) f)
theorem z_sz {J : Nat} {y z : Rat} (h : Dy J y) (hJ : J < 90) (e : z * 3 = 64 * y - 24) : szR z 3 := by
  obtain ⟨A, hA, hy⟩ := h
  have P := p2_pos J
  have h2 : 2 ^ J ≤ 2 ^ 89 := Nat.pow_le_pow_right (by omega) (by omega)
  have key : ∀ (s : Bool) (N : Nat), N ≤ 64 * 2 ^ J → z * (3 * p2 J) = ((sgn s N : Int) : Rat) → szR z 3 := by
    intro s N hN hz
    have e2 : z = mkRat (sgn s N) (3 * 2 ^ J) := by
      rw [Rat.mkRat_eq_div, show ((3 * 2 ^ J : Nat) : Rat) = 3 * p2 J by exact_mod_cast rfl, ← hz]
      have : (0 : Rat) < 3 * p2 J := by grind
      generalize 3 * p2 J = d at *
      grind
    rw [e2]
    exact szR_mk (lim_len_lt (by omega)) (lim_len_lt (by omega)) (by omega)
  have e3 : z * (3 * p2 J) = 64 * (A : Rat) - 24 * p2 J := by
    rw [← hy]
    generalize p2 J = d at *
    grind
  rcases Nat.le_total (24 * 2 ^ J) (64 * A) with g | g
  · refine key false (64 * A - 24 * 2 ^ J) (by omega) ?_
    rw [e3]
    have c : 64 * A - 24 * 2 ^ J + 24 * 2 ^ J = 64 * A := by omega
    have c2 : ((64 * A - 24 * 2 ^ J : Nat) : Rat) + 24 * p2 J = 64 * (A : Rat) := by
      have : (((64 * A - 24 * 2 ^ J) + 24 * 2 ^ J : Nat) : Rat) = ((64 * A : Nat) : Rat) := by rw [c]
      exact_mod_cast this
    show _ = ((((64 * A - 24 * 2 ^ J : Nat) : Int)) : Rat)
    rw [Rat.intCast_natCast]
    grind
  · refine key true (24 * 2 ^ J - 64 * A) (by omega) ?_
    rw [e3]
    have c : 24 * 2 ^ J - 64 * A + 64 * A = 24 * 2 ^ J := by omega
    have c2 : ((24 * 2 ^ J - 64 * A : Nat) : Rat) + 64 * (A : Rat) = 24 * p2 J := by
      have : (((24 * 2 ^ J - 64 * A) + 64 * A : Nat) : Rat) = ((24 * 2 ^ J : Nat) : Rat) := by rw [c]
      exact_mod_cast this
    show _ = ((-((24 * 2 ^ J - 64 * A : Nat) : Int) : Int) : Rat)
    rw [Rat.intCast_neg, Rat.intCast_natCast]
    grind
theorem p2_64 : p2 6 = 64 := by decide +kernel
theorem nm_z {x : Rat} {J : Nat} (h : Ds (a - 24) 6 J x) (hJ : J < 90) : szR ((x - a) / 3) 3 := by
  obtain ⟨y, hy, e⟩ := h
  refine z_sz hy hJ ?_
  rw [Rat.div_mul_cancel (by decide), e, p2_64]
  grind
theorem third_between {x lo hi : Rat} (h1 : a - 24 ≤ x) (h2 : x ≤ a + 24) : -8 ≤ (x - a) / 3 ∧ (x - a) / 3 ≤ 8 := by
  have e := Rat.div_mul_cancel (a := x - a) (b := 3) (by decide)
  generalize (x - a) / 3 = z at *
  constructor <;> grind
end
end Go.Proofs.YtecjelnpmcnbaaaGreat
namespace Go.Proofs.YtecjelnpmcnbaaaGreat
open Go.Ev
theorem share_neg {z h : Rat} (h8 : z ≤ 8) (B : HiN z h) (k : h < 1 / 2) : z < 0 := by
  refine Rat.not_le.1 fun g => ?_
  have s := share_grows (x := 0) (l := 1 / 2) (by decide) g h8 (.inl ⟨rfl, rfl⟩) B
  generalize (1 / 2 : Rat) = c at *
  grind
theorem share_pos {z l : Rat} (h8 : -8 ≤ z) (A : LoN z l) (k : 1 / 2 < l) : 0 < z := by
  refine Rat.not_le.1 fun g => ?_
  have s := share_grows (y := 0) (h := 1 / 2) h8 g (by decide) A (.inl ⟨rfl, rfl⟩)
  generalize (1 / 2 : Rat) = c at *
  grind
theorem lt_le {x y z : Rat} (h : x < y) (k : y ≤ z) : x < z := by grind
theorem le_lt {x y z : Rat} (h : x ≤ y) (k : y < z) : x < z := by grind
section
variable {sa sb : Bool} {na da nb db : List Nat} {a : Rat} {x y : Rat}
theorem nm_gap {q : Rat} (h1 : a - 24 < x) (h2 : y < a + 24) (h : 1 ≤ (y - x) * 131072) (A : NearT (LoX a) (HiX a) q x) (B : NearT (LoX a) (HiX a) q y) : False := by
  obtain ⟨l, h, L, -, hl, hh, w⟩ := A
  obtain ⟨l', h', -, H', hl', hh', w'⟩ := B
  have b1 := third_between (lo := x) (hi := x) (a := a) (x := x) (by grind) (by grind)
  have b2 := third_between (lo := x) (hi := x) (a := a) (x := y) (by grind) (by grind)
  have e1 := Rat.div_mul_cancel (a := x - a) (b := 3) (by decide)
  have e2 := Rat.div_mul_cancel (a := y - a) (b := 3) (by decide)
  unfold LoX at L
  unfold HiX at H'
  generalize (x - a) / 3 = u at *
  generalize (y - a) / 3 = v at *
  have s := share_grows b1.1 (show u ≤ v by grind) b2.2 L H'
  grind
set_option maxHeartbeats 1000000 in
theorem nm_of {p : Nat} (hp : p ≤ 16) {q : Rat} {v : SV} (hA : RatA (ratV sa na da) a 1) (hB : RatA (ratV sb nb db) 3 1) (hq : RatA v q 1) (q1 : 1 / 2 ≤ q) (q2 : q ≤ 2 / 3) :
    ∃ k lo hi, SrT (LoX a) (HiX a) q (a - 24) 6 (a - 24) (a + 24) k lo hi ∧ k ≤ 56 ∧ Go.Ev.Fn CX 8 [distV 1 0 0 sa na da sb nb db, v, .int .i64 (p : Int)] (.tup [ballR lo hi, .int .i64 0]) := by
  have za := szR_of hA (by omega)
  have z24 : szR 24 1 := ⟨lim_len_lt (by decide +kernel), lim_len_lt (by decide +kernel)⟩
  have z8 : szR 8 3 := ⟨lim_len_lt (by decide +kernel), lim_len_lt (by decide +kernel)⟩
  have z8' : szR (-8) 3 := ⟨lim_len_lt (by decide +kernel), lim_len_lt (by decide +kernel)⟩
  have zc := szR_sub za z24 (by omega)
  have zc' : szR (a - 24) 5 := szR_mono zc (by omega)
  have zd := szR_add za z24 (by omega)
  have i1 : (a - 24 - a) / 3 = -8 := by
    rw [show a - 24 - a = -24 by grind]; decide +kernel
  have i2 : (a + 24 - a) / 3 = 8 := by
    rw [show a + 24 - a = 24 by grind]; decide +kernel
  have ck := dist_Check (k := 1) (n := 0) (m := 0) hA hB (by omega) (by omega)
  rw [chk_normal (by decide)] at ck
  obtain ⟨l1, h1, c1, y1, y2, w1, A1, -⟩ := nm_Cdf (P := 32) (Q := 32) hA hB zc (by omega) (by omega) (by rw [i1]; exact z8') (by rw [i1]; decide) (by rw [i1]; decide) (.inl rfl) rfl
  obtain ⟨l2, h2, c2, y3, y4, w2, A2, B2⟩ := nm_Cdf (P := 32) (Q := 32) hA hB zd (by omega) (by omega) (by rw [i2]; exact z8) (by rw [i2]; decide) (by rw [i2]; decide) (.inl rfl) rfl
  have p32 : p2 32 = 4294967296 := by decide +kernel
  rw [p32] at w1 w2
  unfold LoX at A1 A2
  unfold HiX at B2
  rw [i1] at A1
  rw [i2] at A2 B2
  have g1 := share_high A1 w1
  have g2 := share_low B2 w2
  have g3 := share_grows (by decide) Rat.le_refl (by decide) A2 B2
  have q0 : 0 < q := lt_le (by decide +kernel) q1
  have q1' : q < 1 := le_lt q2 (by decide +kernel)
  have S0 : SrT (LoX a) (HiX a) q (a - 24) 6 (a - 24) (a + 24) 0 (a - 24) (a + 24) := by
    refine ⟨.inl rfl, .inl rfl, by grind, ⟨0, dy_zero _, by grind⟩, ⟨3 / 4, ⟨12582912, by decide, by decide +kernel⟩, ?_⟩, ?_⟩
    · rw [p2_64, show (64 : Rat) * (3 / 4) = 48 by decide +kernel]
      grind
    · rw [show a + 24 - (a - 24) = 48 by grind]
      decide +kernel
  refine of_T hp (by omega) (szR_mono zc (by omega)) hq q0 q1' ck nm_Counts (nm_isWide hB) (nm_stretch hA hB) c1 y1 y2 (lt_le g1 q1) c2 y3 y4 (le_lt q2 g2) (fun k => ?_) S0 ?_ (fun x y b1 b2 b3 A B => nm_gap b1 b2 b3 A B)
  · generalize (2 / 3 : Rat) = c at *
    grind
  · rintro x ⟨J, hJ, hx⟩ b1 b2 P hP
    obtain ⟨t1, t2⟩ := third_between (lo := x) (hi := x) (a := a) (x := x) (by grind) (by grind)
    obtain ⟨l, h, c, x1, x2, w, A, B⟩ := nm_Cdf (P := P) (Q := if P ≤ 200 then P else 200) hA hB (ds_sz hx (by omega) (by omega) zc' (by omega)) (by omega) (by omega) (nm_z hx hJ) t1 t2 hP rfl
    refine ⟨l, h, c, x1, x2, fun e => ?_, A, B⟩
    subst e
    rw [if_neg (by omega)] at w
    have e : (340282366920938463463374607431768211456 : Rat) ≤ p2 200 := by decide +kernel
    have le := share_grows t1 Rat.le_refl t2 A B
    have m := Rat.mul_le_mul_of_nonneg_left e (show 0 ≤ h - l by grind)
    exact Rat.le_trans m w
theorem nm_ends {q lo hi : Rat} {k : Nat} (S : SrT (LoX a) (HiX a) q (a - 24) 6 (a - 24) (a + 24) k lo hi) (q1 : 1 / 2 ≤ q) : a ≤ hi ∧ (q = 1 / 2 → lo ≤ a) := by
  obtain ⟨r1, r2⟩ := srt_ends S
  have lt := S.lt
  constructor
  · rcases S.high with e | ⟨e, l, A, g⟩
    · grind
    · obtain ⟨t1, t2⟩ := third_between (lo := hi) (hi := hi) (a := a) (x := hi) (by grind) r2
      have p := share_pos t1 A (le_lt q1 g)
      have e2 := Rat.div_mul_cancel (a := hi - a) (b := 3) (by decide)
      grind
  · intro hq
    rcases S.low with e | ⟨e, h, B, g⟩
    · grind
    · obtain ⟨t1, t2⟩ := third_between (lo := lo) (hi := lo) (a := a) (x := lo) r1 (by grind)
      have p := share_neg t2 B (by rw [← hq]; exact g)
      have e2 := Rat.div_mul_cancel (a := lo - a) (b := 3) (by decide)
      grind
theorem nm_szs {q lo hi : Rat} {k : Nat} (za : szR a 1) (S : SrT (LoX a) (HiX a) q (a - 24) 6 (a - 24) (a + 24) k lo hi) (hk : k ≤ 56) : szR lo 20 ∧ szR hi 20 := by
  have z24 : szR 24 1 := ⟨lim_len_lt (by decide +kernel), lim_len_lt (by decide +kernel)⟩
  have zc' : szR (a - 24) 5 := szR_mono (szR_sub za z24 (by omega)) (by omega)
  exact ⟨szR_mono (ds_sz S.dlo (by omega) (by omega) zc' (by omega)) (by omega), szR_mono (ds_sz S.dhi (by omega) (by omega) zc' (by omega)) (by omega)⟩
end
end Go.Proofs.YtecjelnpmcnbaaaGreat
namespace Go.Proofs.YtecjelnpmcnbaaaGreat
open Go.Ev
theorem hfQ_len : szR (1 / 2) 1 := ⟨lim_len_lt (by decide +kernel), lim_len_lt (by decide +kernel)⟩
theorem one_len : szR 1 1 := ⟨lim_len_lt (by decide +kernel), lim_len_lt (by decide +kernel)⟩
theorem lo_half {l h : Rat} (g : l ≤ h) : loL (l * (1 / 2)) [l * (1 / 2), h * (1 / 2), h * (1 / 2)] = l * (1 / 2) ∧ hiL (l * (1 / 2)) [l * (1 / 2), h * (1 / 2), h * (1 / 2)] = h * (1 / 2) := by
  have g2 := Rat.mul_le_mul_of_nonneg_right g (show (0 : Rat) ≤ 1 / 2 by decide +kernel)
  generalize l * (1 / 2) = u at *
  generalize h * (1 / 2) = v at *
  constructor
  · simp only [loL, List.foldl_cons, List.foldl_nil, mnR]
    repeat (first | rw [if_neg (by grind)] | rfl)
  · simp only [hiL, List.foldl_cons, List.foldl_nil, mxR]
    rw [if_neg (show ¬ u < u by grind)]
    by_cases e : u < v
    · rw [if_pos e, if_neg (show ¬ v < v by grind)]
    · rw [if_neg e, if_neg e]; grind
theorem dist_one : Go.Ev.Fn CX 154 [] (ballR 1 1) := by
  have i1 := rat_Int 1 (by omega)
  have o := ball_Of (RatA_rv (int_szR (n := 1) (by omega))) (by omega)
  rw [show ((1 : Int) : Rat) = 1 from rfl] at i1 o
  refine Go.Ev.Fn.intro (fn := Tryz.f154) (body := (Tryz.f154).body.get!) (by kernel_rfl) (by kernel_rfl) (by kernel_rfl) (fun _ => rfl) (Nat.le_of_ble_eq_true (by kernel_rfl)) ?_; unfold Tryz.f154; simp only [Option.get!_some]
  repeat (first | (simp only [go_sem]) | (simp (disch := (first | omega | (simp only [AL, List.length_map]; omega))) only [AR, AL, ifT, ifF, take_all, List.length_cons, List.length_nil, Int.reduceToNat, Int.reducePow, Nat.reducePow]) | (refine wk_intro (by kernel_rfl) ?_) | (refine vf_of (by first | exact i1 | exact o) ?_))
section
variable {n m p : Int} {x l h : Rat} {v : SV} {L : Nat}
def stuY (n : Int) (x : Rat) : Rat := (n : Rat) / ((n : Rat) + x * x)
theorem stuY_sz (hn : 1 ≤ n ∧ n ≤ 256) (hx : szR x L) (hL1 : 1 ≤ L) : szR (stuY n x) (2 * L + 8) := by
  have i := int_szR (n := n) (by omega)
  exact szR_mono (szR_div i (szR_add i (szR_mul hx hx hL1) (by omega)) (by omega) (by omega)) (by omega)
def stuB (x l h : Rat) : Rat × Rat := if x < 0 then (l * (1 / 2), h * (1 / 2)) else (1 - h * (1 / 2), 1 - l * (1 / 2))
theorem dist_student (hn : 1 ≤ n ∧ n ≤ 256) (hx : RatA v x L) (hL1 : 1 ≤ L) (hL : L ≤ 80) (f : Go.Ev.Fn CX 156 [.int .i64 n, .int .i64 1, rv (stuY n x), .int .i64 p] (.tup [ballR l h, .bool true])) (z1 : szR l 200) (z2 : szR h 200) (g : l ≤ h) :
    Go.Ev.Fn CX 151 [.int .i64 n, v, .int .i64 p] (.tup [ballR (stuB x l h).1 (stuB x l h).2, .bool true]) := by
  have zx := szR_of hx hL1
  have i := int_szR (n := n) (by omega)
  have rn := rat_Int n (by omega)
  have mu := rat_Mul hx hx hL1 hL1 (by omega)
  have ad := rat_Add (RatA_rv i) (RatA_rv (szR_mul zx zx hL1)) (by omega) (by omega) (by omega)
  have ov := dist_over (RatA_rv i) (RatA_rv (szR_add i (szR_mul zx zx hL1) (by omega))) (by omega) (by omega) (by omega)
  have pt := dist_part 1 2 (by omega) (by omega)
  rw [show ((1 : Int) : Rat) / ((2 : Int) : Rat) = 1 / 2 from rfl] at pt
  have o := ball_Of (RatA_rv hfQ_len) (by omega)
  have bm := ball_Mul (L := 200) z1 z2 (szR_mono hfQ_len (by omega)) (szR_mono hfQ_len (by omega)) (by omega) (by omega)
  rw [(lo_half g).1, (lo_half g).2] at bm
  have bl := dist_below hx hL1 (by omega) 0 (by omega)
  rw [show ((0 : Int) : Rat) = 0 from rfl] at bl
  have d1 := dist_one
  have bs := ball_Sub (a := 1) (b := 1) (L := 300) (szR_mono one_len (by omega)) (szR_mono one_len (by omega)) (szR_mono (szR_mul z1 hfQ_len (by omega)) (by omega)) (szR_mono (szR_mul z2 hfQ_len (by omega)) (by omega)) (by omega) (by omega)
  unfold stuB
  unfold stuY at f
  clear g z1 z2 zx i
  obtain ⟨s, nn, dd, rfl, -⟩ := hx
  generalize (n : Rat) / ((n : Rat) + x * x) = y at *
  generalize (n : Rat) + x * x = y2 at *
  generalize x * x = y3 at *
  generalize l * (1 / 2) = l2 at *
  generalize h * (1 / 2) = h2 at *
  generalize (1 / 2 : Rat) = hf at *
  by_cases hx0 : x < 0
  · rw [decide_eq_true hx0] at bl
    rw [if_pos hx0]
    refine Go.Ev.Fn.intro (fn := Tryz.f151) (body := (Tryz.f151).body.get!) (by kernel_rfl) (by kernel_rfl) (by kernel_rfl) (fun _ => rfl) (Nat.le_of_ble_eq_true (by kernel_rfl)) ?_; unfold Tryz.f151; simp only [Option.get!_some]
    repeat (first | (simp only [go_sem, Bool.not_true]) | (simp (disch := (first | omega | (simp only [AL, List.length_map]; omega))) only [AR, AL, ifT, ifF, take_all, List.length_cons, List.length_nil, Int.reduceToNat, Int.reducePow, Nat.reducePow, Bool.not_true]) | (refine wk_intro (by kernel_rfl) ?_) | (refine vp_draw (id := 2) (l := []) (by kernel_rfl) ?_) | (refine vp_draw (id := 3) (l := []) (by kernel_rfl) ?_) | (refine vp_draw (id := 5) (l := []) (by kernel_rfl) ?_) | (refine vf_of (by first | exact rn | exact mu | exact ad | exact ov | exact f | exact pt | exact o | exact bm | exact bl) ?_))
  · rw [decide_eq_false hx0] at bl
    rw [if_neg hx0]
    generalize 1 - h2 = u1 at *
    generalize 1 - l2 = u2 at *
    refine Go.Ev.Fn.intro (fn := Tryz.f151) (body := (Tryz.f151).body.get!) (by kernel_rfl) (by kernel_rfl) (by kernel_rfl) (fun _ => rfl) (Nat.le_of_ble_eq_true (by kernel_rfl)) ?_; unfold Tryz.f151; simp only [Option.get!_some]
    repeat (first | (simp only [go_sem, Bool.not_false]) | (simp (disch := (first | omega | (simp only [AL, List.length_map]; omega))) only [AR, AL, ifT, ifF, take_all, List.length_cons, List.length_nil, Int.reduceToNat, Int.reducePow, Nat.reducePow, Bool.not_false]) | (refine wk_intro (by kernel_rfl) ?_) | (refine vp_draw (id := 2) (l := []) (by kernel_rfl) ?_) | (refine vp_draw (id := 3) (l := []) (by kernel_rfl) ?_) | (refine vp_draw (id := 5) (l := []) (by kernel_rfl) ?_) | (refine vf_of (by first | exact rn | exact mu | exact ad | exact ov | exact f | exact pt | exact o | exact bm | exact bl | exact d1 | exact bs) ?_))
theorem chance_student {sa sb : Bool} {na da nb db : List Nat} {m : Int} {r : SV} (hx : RatA v x L) (f : Go.Ev.Fn CX 151 [.int .i64 n, v, .int .i64 p] r) (hr : ∃ a b : Rat, r = .tup [ballR a b, .bool true]) :
    Go.Ev.Fn CX 109 [distV 5 n m sa na da sb nb db, v, .int .i64 p] r := by
  obtain ⟨s, nn, dd, rfl, -⟩ := hx
  obtain ⟨a, b, rfl⟩ := hr
  refine Go.Ev.Fn.intro (fn := Tryz.f109) (body := (Tryz.f109).body.get!) (by kernel_rfl) (by kernel_rfl) (by kernel_rfl) (fun _ => rfl) (Nat.le_of_ble_eq_true (by kernel_rfl)) ?_; unfold Tryz.f109; simp only [Option.get!_some]
  repeat (first | (simp only [go_sem]) | (simp (disch := (first | omega | (simp only [AL, List.length_map]; omega))) only [AR, AL, ifT, ifF, take_all, List.length_cons, List.length_nil, Int.reduceToNat, Int.reducePow, Nat.reducePow]) | (refine wk_intro (by kernel_rfl) ?_) | (refine vp_draw (id := 3) (l := []) (by kernel_rfl) ?_) | (refine vp_draw (id := 11) (l := []) (by kernel_rfl) ?_) | (refine vp_draw (id := 13) (l := []) (by kernel_rfl) ?_) | (refine vp_draw (id := 15) (l := []) (by kernel_rfl) ?_) | (refine vp_draw (id := 17) (l := []) (by kernel_rfl) ?_) | (refine vp_draw (id := 18) (l := []) (by kernel_rfl) ?_) | (refine vp_draw (id := 24) (l := []) (by kernel_rfl) ?_) | (refine vp_draw (id := 26) (l := []) (by kernel_rfl) ?_) | (refine vf_of (by first | exact f) ?_))
end
end Go.Proofs.YtecjelnpmcnbaaaGreat
namespace Go.Proofs.YtecjelnpmcnbaaaGreat
open Go.Ev
set_option maxHeartbeats 1000000 in
theorem low_ok : (List.range 16).all (fun j => decide ((1 : Rat) ≤ fsG 1 (1 + j) * (rtF 1 S2 * rtF (1 + j) S2) * 1048576) && decide ((1 : Rat) ≤ fsC 1 (1 + j) * fsC 1 (1 + j) * 1048576)) = true := by decide +kernel
section
variable {n : Nat} {x y l h t : Rat}
theorem low_all (hn : 1 ≤ n ∧ n ≤ 16) : 1 ≤ fsG 1 n * (rtF 1 S2 * rtF n S2) * 1048576 ∧ 1 ≤ fsC 1 n * fsC 1 n * 1048576 := by
  have h := List.all_eq_true.1 low_ok (n - 1) (List.mem_range.2 (by omega))
  rw [show 1 + (n - 1) = n by omega, Bool.and_eq_true, decide_eq_true_eq, decide_eq_true_eq] at h
  exact h
theorem half_less (hn : 1 ≤ n ∧ n ≤ 16) : hfHi n 1 ≤ 1 - 1 / 2097152 := by
  have s := (hf_sum (a := n) (b := 1) (by omega) (by omega) (by omega) (by omega)).2
  have g := (low_all hn).1
  have h2 : (0 : Rat) ≤ 1 / 2 := by decide +kernel
  have u := sR_up (x := 1 / 2) (a := 1) (b := n) h2 (show 0 ≤ 120 by omega)
  have v := rR_nn (x := 1 / 2) (a := 1) (b := n) h2 120
  have e : hfHi 1 n = fsG 1 n * (rtF 1 S2 * rtF n S2) * (sR (1 / 2) 1 n 120 + 3 * rR (1 / 2) 1 n 120) := rfl
  have u1 : (1 : Rat) ≤ sR (1 / 2) 1 n 120 + 3 * rR (1 / 2) 1 n 120 := by
    have : sR (1 / 2) 1 n 0 = 1 := rfl
    rw [this] at u
    generalize sR (1 / 2) 1 n 120 = a at *
    generalize rR (1 / 2) 1 n 120 = b at *
    grind
  have F : 0 ≤ fsG 1 n * (rtF 1 S2 * rtF n S2) := Rat.mul_nonneg (fsG_nn (by omega) (by omega) (by omega) (by omega)) (Rat.mul_nonneg (rtF_nn 1 S2_nn) (rtF_nn n S2_nn))
  have m := Rat.mul_le_mul_of_nonneg_left u1 F
  rw [← e, Rat.mul_one] at m
  have c : (1 / 2097152 : Rat) * 2097152 = 1 := by decide +kernel
  generalize (1 / 2097152 : Rat) = d at *
  generalize fsG 1 n * (rtF 1 S2 * rtF n S2) = G at *
  grind
theorem lo1_half (hn : 1 ≤ n ∧ n ≤ 16) (h0 : 0 < y) (hy : y + y ≤ 1) (A : Lo1 n 1 y l) : l ≤ 1 - 1 / 2097152 := by
  have c : (1 / 2097152 : Rat) ≤ 1 := by decide +kernel
  have k := half_less hn
  rcases Rat.le_total (a := l) (b := 0) with g | g
  · generalize (1 / 2097152 : Rat) = d at *
    grind
  by_cases e : l = 0
  · generalize (1 / 2097152 : Rat) = d at *
    grind
  have cr := cross (a := n) (b := 1) (by omega) (by omega) (by omega) (by omega) h0 hy (show 0 < l by grind) A
  have p := Rat.mul_nonneg g (show 0 ≤ 1 / 2 - y by
    have hh : (1 / 2 : Rat) + 1 / 2 = 1 := by decide +kernel
    generalize (1 / 2 : Rat) = q at *
    grind)
  generalize (1 / 2097152 : Rat) = d at *
  generalize l * (1 / 2 - y) = q at *
  grind
theorem los_one (hn : 1 ≤ n ∧ n ≤ 16) (h0 : 0 < y) (A : LoS n 1 y l) : l ≤ 1 := by
  rcases A with ⟨k, A⟩ | ⟨-, A⟩
  · have := lo1_half hn h0 k A
    have c : (0 : Rat) ≤ 1 / 2097152 := by decide +kernel
    generalize (1 / 2097152 : Rat) = d at *
    grind
  · have := A.1
    grind
theorem pwR_most (h : 1 ≤ 2 * y) : ∀ n, 1 ≤ pwR y n * ((2 ^ n : Nat) : Rat)
  | 0 => by show (1 : Rat) ≤ 1 * ((1 : Nat) : Rat); decide +kernel
  | n + 1 => by
    have ih := pwR_most h n
    rw [pwR_succ, Nat.pow_succ]
    have e : ((2 ^ n * 2 : Nat) : Rat) = ((2 ^ n : Nat) : Rat) * 2 := by exact_mod_cast rfl
    rw [e]
    have m := Rat.mul_le_mul_of_nonneg_left h (show 0 ≤ pwR y n * ((2 ^ n : Nat) : Rat) by grind)
    generalize ((2 ^ n : Nat) : Rat) = d at *
    generalize pwR y n = p at *
    grind
theorem los_far (hn : 1 ≤ n ∧ n ≤ 16) (h0 : 0 < y) (h1 : y < 1) (ht : 1 ≤ (1 - y) * 2199023255552) (A : LoS n 1 y l) (hl : (1 - l) * 170141183460469231731687303715884105728 ≤ 1) : False := by
  rcases A with ⟨k, A⟩ | ⟨k, B0, K, B⟩
  · have g := lo1_half hn h0 k A
    have c : 1 < (1 / 2097152 : Rat) * 170141183460469231731687303715884105728 := by decide +kernel
    generalize (1 / 2097152 : Rat) = d at *
    grind
  · have b := B K (Nat.le_refl K)
    unfold shG at b
    have e1 : pwR (1 - y) 1 = 1 - y := by show 1 * (1 - y) = 1 - y; rw [Rat.one_mul]
    have e2 : 1 - (1 - y) = y := by grind
    rw [e1, e2] at b
    have u := sR_up (x := 1 - y) (a := 1) (b := n) (by grind) (Nat.zero_le K)
    rw [show sR (1 - y) 1 n 0 = 1 from rfl] at u
    have uu : 1 ≤ sR (1 - y) 1 n K * sR (1 - y) 1 n K := by
      have m := Rat.mul_le_mul_of_nonneg_left u (show 0 ≤ sR (1 - y) 1 n K by grind)
      grind
    have p := pwR_most (y := y) (by grind) n
    have q : ((2 ^ n : Nat) : Rat) ≤ 65536 := by
      have : 2 ^ n ≤ 65536 := Nat.le_trans (Nat.pow_le_pow_right (by omega) hn.2) (by decide)
      exact_mod_cast this
    have p0 := pwR_nn (q := y) (Rat.le_of_lt h0) n
    have p1 : 1 ≤ pwR y n * 65536 := Rat.le_trans p (Rat.mul_le_mul_of_nonneg_left q p0)
    have c := (low_all hn).2
    generalize sR (1 - y) 1 n K * sR (1 - y) 1 n K = S at *
    generalize pwR y n = P at *
    generalize fsC 1 n * fsC 1 n = C at *
    obtain ⟨T, hT⟩ : ∃ T, T = 1 - y := ⟨_, rfl⟩
    rw [← hT] at b ht
    have T0 : 0 ≤ T := by grind
    have C0 : 0 ≤ C := by grind
    have a1 : 1 ≤ T * P * (2199023255552 * 65536) := by
      have := Rat.mul_le_mul_of_nonneg_left p1 (show 0 ≤ T * 2199023255552 by grind)
      grind
    have a2 : 1 ≤ T * P * S * (2199023255552 * 65536) := by
      have := Rat.mul_le_mul_of_nonneg_left uu (show 0 ≤ T * P * (2199023255552 * 65536) by grind)
      grind
    have a3 : 1 ≤ C * (T * P * S) * (2199023255552 * 65536 * 1048576) := by
      have := Rat.mul_le_mul_of_nonneg_left a2 (show 0 ≤ C * 1048576 by grind)
      grind
    obtain ⟨D, hD⟩ : ∃ D, D = 1 - l := ⟨_, rfl⟩
    rw [← hD] at b hl B0
    have d1 : D * D * 170141183460469231731687303715884105728 ≤ D := by
      have := Rat.mul_le_mul_of_nonneg_left hl B0
      grind
    generalize C * (T * P * S) = Z at *
    generalize D * D = E at *
    grind
theorem stu_y (hn : 1 ≤ n) (hx : x ≠ 0) : 0 < stuY (n : Int) x ∧ stuY (n : Int) x < 1 ∧ stuY (n : Int) x * ((n : Rat) + x * x) = (n : Rat) := by
  have N1 : (1 : Rat) ≤ (n : Rat) := by exact_mod_cast hn
  have xx : 0 < x * x := by
    rcases Rat.le_total (a := 0) (b := x) with g | g
    · exact Rat.mul_pos (by grind) (by grind)
    · have := Rat.mul_pos (show 0 < -x by grind) (show 0 < -x by grind)
      grind
  unfold stuY
  rw [Rat.intCast_natCast]
  generalize x * x = u at *
  generalize (n : Rat) = N at *
  have e : N / (N + u) * (N + u) = N := Rat.div_mul_cancel (by grind)
  generalize N / (N + u) = q at *
  have s : 0 < N + u := by grind
  refine ⟨?_, ?_, e⟩
  · refine Rat.not_le.1 fun g => ?_
    have := Rat.mul_le_mul_of_nonneg_right g (Rat.le_of_lt s)
    grind
  · refine Rat.not_le.1 fun g => ?_
    have := Rat.mul_le_mul_of_nonneg_right g (Rat.le_of_lt s)
    grind
theorem stu_far (hn : 1 ≤ n ∧ n ≤ 16) (hx : 1 ≤ x * x * 68719476736) : 1 ≤ (1 - stuY (n : Int) x) * 2199023255552 := by
  have x0 : x ≠ 0 := by
    intro e
    subst e
    exact absurd hx (by decide +kernel)
  obtain ⟨y0, y1, e⟩ := stu_y hn.1 x0
  have N16 : (n : Rat) ≤ 16 := by exact_mod_cast hn.2
  have N1 : (1 : Rat) ≤ (n : Rat) := by exact_mod_cast hn.1
  generalize stuY (n : Int) x = y at *
  generalize (n : Rat) = N at *
  generalize x * x = u at *
  refine le_by (show 0 < N + u by grind) ?_
  grind
def LoU (n : Nat) : Tells := fun x l => (x = 0 ∧ l = 1 / 2) ∨ (x < 0 ∧ ∃ l', LoS n 1 (stuY (n : Int) x) l' ∧ l = l' * (1 / 2)) ∨ (0 < x ∧ ∃ h', HiS n 1 (stuY (n : Int) x) h' ∧ l = 1 - h' * (1 / 2))
def HiU (n : Nat) : Tells := fun x h => (x = 0 ∧ h = 1 / 2) ∨ (x < 0 ∧ ∃ h', HiS n 1 (stuY (n : Int) x) h' ∧ h = h' * (1 / 2)) ∨ (0 < x ∧ ∃ l', LoS n 1 (stuY (n : Int) x) l' ∧ h = 1 - l' * (1 / 2))
theorem stu_neg (hn : 1 ≤ n ∧ n ≤ 16) (B : HiU n x h) (k : h < 1 / 2) : x < 0 := by
  have hh : (1 / 2 : Rat) + 1 / 2 = 1 := by decide +kernel
  rcases B with ⟨-, e⟩ | ⟨g, -⟩ | ⟨g, l', A, e⟩
  · grind
  · exact g
  · have := los_one hn (stu_y hn.1 (by grind)).1 A
    generalize (1 / 2 : Rat) = c at *
    have c0 : 0 ≤ c := by grind
    have := Rat.mul_le_mul_of_nonneg_right this c0
    grind
theorem stu_pos (hn : 1 ≤ n ∧ n ≤ 16) (A : LoU n x l) (k : 1 / 2 < l) : 0 < x := by
  have hh : (1 / 2 : Rat) + 1 / 2 = 1 := by decide +kernel
  rcases A with ⟨-, e⟩ | ⟨g, l', A, e⟩ | ⟨g, -⟩
  · grind
  · have := los_one hn (stu_y hn.1 (by grind)).1 A
    generalize (1 / 2 : Rat) = c at *
    have c0 : 0 ≤ c := by grind
    have := Rat.mul_le_mul_of_nonneg_right this c0
    grind
  · exact g
theorem stu_near (hn : 1 ≤ n ∧ n ≤ 16) (A : NearT (LoU n) (HiU n) (1 / 2) x) : x * x * 68719476736 < 1 := by
  refine Rat.not_le.1 fun g => ?_
  have far := stu_far hn g
  have hh : (1 / 2 : Rat) * 2 = 1 := by decide +kernel
  obtain ⟨l, h, L, H, hl, hu, w⟩ := A
  have x0 : x ≠ 0 := by
    intro e
    subst e
    exact absurd g (by decide +kernel)
  obtain ⟨y0, y1, -⟩ := stu_y hn.1 x0
  rcases L with ⟨e, -⟩ | ⟨c, l', L, rfl⟩ | ⟨c, h', L, rfl⟩
  · exact x0 e
  · rcases H with ⟨e, -⟩ | ⟨-, h', H, rfl⟩ | ⟨c', -⟩
    · exact x0 e
    · refine los_far hn y0 y1 far L ?_
      generalize (1 / 2 : Rat) = f at *
      have a1 : l' * f * 2 = l' := by rw [Rat.mul_assoc, hh, Rat.mul_one]
      have a2 : h' * f * 2 = h' := by rw [Rat.mul_assoc, hh, Rat.mul_one]
      generalize l' * f = P at *
      generalize h' * f = Q at *
      grind
    · grind
  · rcases H with ⟨e, -⟩ | ⟨c', -⟩ | ⟨-, l', H, rfl⟩
    · exact x0 e
    · grind
    · refine los_far hn y0 y1 far H ?_
      generalize (1 / 2 : Rat) = f at *
      have a1 : l' * f * 2 = l' := by rw [Rat.mul_assoc, hh, Rat.mul_one]
      have a2 : h' * f * 2 = h' := by rw [Rat.mul_assoc, hh, Rat.mul_one]
      generalize l' * f = P at *
      generalize h' * f = Q at *
      grind
theorem sq_lt1 (h : t * t < 1) : t < 1 ∧ -1 < t := by
  constructor
  · refine Rat.not_le.1 fun g => ?_
    have := Rat.mul_le_mul_of_nonneg_left g (show 0 ≤ t by grind)
    grind
  · refine Rat.not_le.1 fun g => ?_
    have := Rat.mul_le_mul_of_nonneg_left (show 1 ≤ -t by grind) (show 0 ≤ -t by grind)
    grind
theorem stu_gap (hn : 1 ≤ n ∧ n ≤ 16) (h : 1 ≤ (y - x) * 131072) (A : NearT (LoU n) (HiU n) (1 / 2) x) (B : NearT (LoU n) (HiU n) (1 / 2) y) : False := by
  have a := stu_near hn A
  have b := stu_near hn B
  have a' := sq_lt1 (t := x * 262144) (by grind)
  have b' := sq_lt1 (t := y * 262144) (by grind)
  grind
end
end Go.Proofs.YtecjelnpmcnbaaaGreat
namespace Go.Proofs.YtecjelnpmcnbaaaGreat
open Go.Ev
section
variable {n : Nat} {m : Int} {x : Rat}
abbrev dS (n : Nat) : SV := distV 5 (n : Int) 0 false [] [] false [] []
theorem st_Counts : Go.Ev.Fn CX 21 [dS n] (.bool false) := by
  refine Go.Ev.Fn.intro (fn := Tryz.f21) (body := (Tryz.f21).body.get!) (by kernel_rfl) (by kernel_rfl) (by kernel_rfl) (fun _ => rfl) (Nat.le_of_ble_eq_true (by kernel_rfl)) ?_; unfold Tryz.f21; simp only [Option.get!_some]
  repeat (first | (simp only [go_sem]) | (simp (disch := (first | omega | (simp only [AL, List.length_map]; omega))) only [AR, AL, ifT, ifF, take_all, List.length_cons, List.length_nil, Int.reduceToNat, Int.reducePow, Nat.reducePow]) | (refine wk_intro (by kernel_rfl) ?_))
theorem st_isWide : Go.Ev.Fn CX 24 [dS n] (.bool false) := by
  refine Go.Ev.Fn.intro (fn := Tryz.f24) (body := (Tryz.f24).body.get!) (by kernel_rfl) (by kernel_rfl) (by kernel_rfl) (fun _ => rfl) (Nat.le_of_ble_eq_true (by kernel_rfl)) ?_; unfold Tryz.f24; simp only [Option.get!_some]
  repeat (first | (simp only [go_sem]) | (simp (disch := (first | omega | (simp only [AL, List.length_map]; omega))) only [AR, AL, ifT, ifF, take_all, List.length_cons, List.length_nil, Int.reduceToNat, Int.reducePow, Nat.reducePow]) | (refine wk_intro (by kernel_rfl) ?_) | (refine vp_draw (id := 3) (l := []) (by kernel_rfl) ?_) | (refine vp_draw (id := 6) (l := []) (by kernel_rfl) ?_))
theorem st_stretch : Go.Ev.Fn CX 25 [dS n] (.tup [rv (-64), rv 64]) := by
  have i := rat_Int (-64) (by omega)
  have j := rat_Int 64 (by omega)
  rw [show ((-64 : Int) : Rat) = -64 from rfl] at i
  rw [show ((64 : Int) : Rat) = 64 from rfl] at j
  refine Go.Ev.Fn.intro (fn := Tryz.f25) (body := (Tryz.f25).body.get!) (by kernel_rfl) (by kernel_rfl) (by kernel_rfl) (fun _ => rfl) (Nat.le_of_ble_eq_true (by kernel_rfl)) ?_; unfold Tryz.f25; simp only [Option.get!_some]
  repeat (first | (simp only [go_sem]) | (simp (disch := (first | omega | (simp only [AL, List.length_map]; omega))) only [AR, AL, ifT, ifF, take_all, List.length_cons, List.length_nil, Int.reduceToNat, Int.reducePow, Nat.reducePow]) | (refine wk_intro (by kernel_rfl) ?_) | (refine vp_draw (id := 3) (l := []) (by kernel_rfl) ?_) | (refine vp_draw (id := 4) (l := []) (by kernel_rfl) ?_) | (refine vp_draw (id := 7) (l := []) (by kernel_rfl) ?_) | (refine vf_of (by first | exact i | exact j) ?_))
theorem chk_student {a b : Rat} (hn : 1 ≤ n ∧ n ≤ 16) : chkD 5 (n : Int) m a b = 0 := by
  unfold chkD
  rw [show inD 5 (n : Int) m a b = decide (1 ≤ (n : Int)) from rfl, show gtD 5 (n : Int) m a = decide (256 < (n : Int)) from rfl, decide_eq_true (show 1 ≤ (n : Int) by omega), decide_eq_false (show ¬ 256 < (n : Int) by omega)]
  rfl
theorem st_Cdf {P Q : Nat} (hn : 1 ≤ n ∧ n ≤ 16) (zx : szR x 10) (hP : P = 32 ∨ P = 64 ∨ P = 128 ∨ P = 256) (hQ : Q = if P ≤ 200 then P else 200) :
    ∃ l h : Rat, Go.Ev.Fn CX 62 [dS n, rv x, .int .i64 (P : Int)] (.tup [ballR l h, .int .i64 0]) ∧ szR l 500 ∧ szR h 500 ∧ l ≤ h ∧ (h - l) * p2 Q ≤ 1 ∧ LoU n x l ∧ HiU n x h := by
  have hQ2 : Q ≤ 200 := by rw [hQ]; split <;> omega
  have N0 : RatA (ratV false [] []) 0 1 := noA
  have hf2 : (1 / 2 : Rat) + 1 / 2 = 1 := by decide +kernel
  by_cases e : x = 0
  · subst e
    have y1 : stuY (n : Int) 0 = 1 := by
      unfold stuY
      rw [Rat.intCast_natCast, show (n : Rat) + 0 * 0 = (n : Rat) by grind]
      have N1 : (1 : Rat) ≤ (n : Rat) := by exact_mod_cast hn.1
      generalize (n : Rat) = N at *
      have := Rat.div_mul_cancel (a := N) (b := N) (by grind)
      generalize N / N = q at *
      have e : (q - 1) * N = 0 := by grind
      rcases Rat.mul_eq_zero.1 e with g | g <;> grind
    have f := incb_I_ends (a := (n : Int)) (b := 1) (pI := (Q : Int)) (RatA_rv one_len) (by omega) (by omega) (by omega) (by omega) (.inr rfl)
    rw [← y1] at f
    have s := dist_student (n := (n : Int)) (p := (Q : Int)) (by omega) (RatA_rv zx) (by omega) (by omega) (by rw [y1] at f ⊢; exact f) (szR_mono one_len (by omega)) (szR_mono one_len (by omega)) Rat.le_refl
    have eq : stuB 0 1 1 = (1 / 2, 1 / 2) := by
      unfold stuB
      rw [if_neg (by decide), Rat.one_mul]
      generalize (1 / 2 : Rat) = c at *
      rw [show 1 - c = c by grind]
    rw [eq] at s
    refine ⟨1 / 2, 1 / 2, cdf_held (m := 0) (P := P) (Q := Q) N0 N0 (by omega) (by omega) (chk_student hn) (RatA_rv zx) (by omega) hQ (chance_student (RatA_rv zx) s ⟨_, _, rfl⟩), szR_mono hfQ_len (by omega), szR_mono hfQ_len (by omega), Rat.le_refl, ?_, .inl ⟨rfl, rfl⟩, .inl ⟨rfl, rfl⟩⟩
    rw [Rat.sub_self, Rat.zero_mul]
    decide
  · obtain ⟨y0, y1, -⟩ := stu_y hn.1 e
    obtain ⟨l, h, f, z1, z2, le, w, A, B⟩ := incb_ballW (a := n) (b := 1) (p := Q) (RatA_rv (stuY_sz (n := (n : Int)) (by omega) zx (by omega))) (by omega) (by omega) (by omega) (by omega) (by omega) (by omega) hQ2 y0 y1
    have s := dist_student (n := (n : Int)) (p := (Q : Int)) (by omega) (RatA_rv zx) (by omega) (by omega) f z1 z2 le
    have c := cdf_held (m := 0) (P := P) (Q := Q) N0 N0 (by omega) (by omega) (chk_student hn) (RatA_rv zx) (by omega) hQ (chance_student (RatA_rv zx) s ⟨_, _, rfl⟩)
    have zl := szR_mul z1 hfQ_len (by omega)
    have zh := szR_mul z2 hfQ_len (by omega)
    have c0 : (0 : Rat) ≤ 1 / 2 := by decide +kernel
    have m := Rat.mul_le_mul_of_nonneg_right le c0
    have W := p2_pos Q
    have w2 : (h * (1 / 2) - l * (1 / 2)) * p2 Q ≤ 1 := by
      have w0 : 0 ≤ (h - l) * p2 Q := Rat.mul_nonneg (by grind) (Rat.le_of_lt W)
      generalize (1 / 2 : Rat) = t at *
      have : (h * t - l * t) * p2 Q = (h - l) * p2 Q * t := by grind
      rw [this]
      generalize (h - l) * p2 Q = u at *
      have := Rat.mul_le_mul_of_nonneg_right w c0
      grind
    unfold stuB at c
    by_cases g : x < 0
    · rw [if_pos g] at c
      exact ⟨_, _, c, szR_mono zl (by omega), szR_mono zh (by omega), m, w2, .inr (.inl ⟨g, l, A, rfl⟩), .inr (.inl ⟨g, h, B, rfl⟩)⟩
    · rw [if_neg g] at c
      refine ⟨_, _, c, szR_mono (szR_sub one_len zh (by omega)) (by omega), szR_mono (szR_sub one_len zl (by omega)) (by omega), ?_, ?_, .inr (.inr ⟨by grind, h, B, rfl⟩), .inr (.inr ⟨by grind, l, A, rfl⟩)⟩
      · generalize l * (1 / 2) = u at *
        generalize h * (1 / 2) = v at *
        grind
      · generalize l * (1 / 2) = u at *
        generalize h * (1 / 2) = v at *
        rw [show 1 - u - (1 - v) = v - u by grind]
        exact w2
theorem st_sixty (hn : 1 ≤ n ∧ n ≤ 16) {x l h : Rat} (hx : x * x = 4096) (A : LoS n 1 (stuY (n : Int) x) l) (w : (h - l) * 4294967296 ≤ 2) : h < 1 := by
  have x0 : x ≠ 0 := by
    intro e
    subst e
    exact absurd hx (by decide +kernel)
  obtain ⟨y0, y1, e⟩ := stu_y hn.1 x0
  rw [hx] at e
  have N16 : (n : Rat) ≤ 16 := by exact_mod_cast hn.2
  have N1 : (1 : Rat) ≤ (n : Rat) := by exact_mod_cast hn.1
  have yy : stuY (n : Int) x + stuY (n : Int) x ≤ 1 := by
    generalize stuY (n : Int) x = y at *
    generalize (n : Rat) = N at *
    refine Rat.not_lt.1 fun g => ?_
    have := Rat.mul_le_mul_of_nonneg_left (show (4096 : Rat) ≤ N + 4096 by grind) (Rat.le_of_lt y0)
    grind
  rcases A with ⟨k, A⟩ | ⟨k, -⟩
  · have g := lo1_half hn y0 k A
    have c : 2 < (1 / 2097152 : Rat) * 4294967296 := by decide +kernel
    generalize (1 / 2097152 : Rat) = d at *
    grind
  · exact absurd k (by grind)
set_option maxHeartbeats 1000000 in
theorem st_of {p : Nat} (hp : p ≤ 16) (hn : 1 ≤ n ∧ n ≤ 16) {v : SV} (hq : RatA v (1 / 2) 1) :
    ∃ k lo hi, SrT (LoU n) (HiU n) (1 / 2) (-64) 7 (-64) 64 k lo hi ∧ k ≤ 56 ∧ Go.Ev.Fn CX 8 [dS n, v, .int .i64 (p : Int)] (.tup [ballR lo hi, .int .i64 0]) := by
  have N0 : RatA (ratV false [] []) 0 1 := noA
  have z1 : szR (-64) 1 := ⟨lim_len_lt (by decide +kernel), lim_len_lt (by decide +kernel)⟩
  have z2 : szR 64 1 := ⟨lim_len_lt (by decide +kernel), lim_len_lt (by decide +kernel)⟩
  have ck := dist_Check (k := 5) (n := (n : Int)) (m := 0) N0 N0 (by omega) (by omega)
  rw [chk_student hn] at ck
  obtain ⟨l1, h1, c1, y1, y2, e1, w1, A1, B1⟩ := st_Cdf (P := 32) (Q := 32) hn (szR_mono z1 (by omega)) (.inl rfl) rfl
  obtain ⟨l2, h2, c2, y3, y4, e2, w2, A2, B2⟩ := st_Cdf (P := 32) (Q := 32) hn (szR_mono z2 (by omega)) (.inl rfl) rfl
  have p32 : p2 32 = 4294967296 := by decide +kernel
  rw [p32] at w1 w2
  have hf2 : (1 / 2 : Rat) * 2 = 1 := by decide +kernel
  have hf0 : (0 : Rat) < 1 / 2 := by decide +kernel
  have hf1 : (1 / 2 : Rat) < 1 := by decide +kernel
  have g1 : h1 < 1 / 2 := by
    rcases A1 with ⟨e, -⟩ | ⟨-, l', A, rfl⟩ | ⟨e, -⟩
    · exact absurd e (by decide)
    · have k := st_sixty (h := 2 * h1) hn (by decide +kernel) A (by
        generalize (1 / 2 : Rat) = c at *
        have a1 : l' * c * 2 = l' := by rw [Rat.mul_assoc, hf2, Rat.mul_one]
        generalize l' * c = u at *
        grind)
      generalize (1 / 2 : Rat) = c at *
      grind
    · exact absurd e (by decide)
  have g2 : 1 / 2 < l2 := by
    rcases B2 with ⟨e, -⟩ | ⟨e, -⟩ | ⟨-, l', A, rfl⟩
    · exact absurd e (by decide)
    · exact absurd e (by decide)
    · have k := st_sixty (h := 2 - 2 * l2) hn (by decide +kernel) A (by
        generalize (1 / 2 : Rat) = c at *
        have a1 : l' * c * 2 = l' := by rw [Rat.mul_assoc, hf2, Rat.mul_one]
        generalize l' * c = u at *
        grind)
      generalize (1 / 2 : Rat) = c at *
      grind
  have S0 : SrT (LoU n) (HiU n) (1 / 2) (-64) 7 (-64) 64 0 (-64) 64 := by
    refine ⟨.inl rfl, .inl rfl, by decide +kernel, ⟨0, dy_zero _, by decide +kernel⟩, ⟨1, dy_one _, by decide +kernel⟩, by decide +kernel⟩
  refine of_T hp (by omega) (szR_mono z1 (by omega)) hq hf0 hf1 ck st_Counts st_isWide st_stretch c1 y1 y2 g1 c2 y3 y4 g2 (fun k => ?_) S0 ?_ (fun x y b1 b2 b3 A B => stu_gap hn b3 A B)
  · generalize (1 / 2 : Rat) = c at *
    grind
  · rintro x ⟨J, hJ, hx⟩ b1 b2 P hP
    obtain ⟨l, h, c, x1, x2, le, w, A, B⟩ := st_Cdf (P := P) (Q := if P ≤ 200 then P else 200) hn (szR_mono (ds_sz hx (by omega) (by omega) z1 (by omega)) (by omega)) hP rfl
    refine ⟨l, h, c, x1, x2, fun e => ?_, A, B⟩
    subst e
    rw [if_neg (by omega)] at w
    have e : (340282366920938463463374607431768211456 : Rat) ≤ p2 200 := by decide +kernel
    have m := Rat.mul_le_mul_of_nonneg_left e (show 0 ≤ h - l by grind)
    exact Rat.le_trans m w
theorem st_ends {lo hi : Rat} {k : Nat} (hn : 1 ≤ n ∧ n ≤ 16) (S : SrT (LoU n) (HiU n) (1 / 2) (-64) 7 (-64) 64 k lo hi) : lo ≤ 0 ∧ 0 ≤ hi := by
  constructor
  · rcases S.low with e | ⟨e, h, B, g⟩
    · subst e; decide
    · exact Rat.le_of_lt (stu_neg hn B g)
  · rcases S.high with e | ⟨e, l, A, g⟩
    · subst e; decide
    · exact Rat.le_of_lt (stu_pos hn A g)
theorem st_szs {lo hi : Rat} {k : Nat} (S : SrT (LoU n) (HiU n) (1 / 2) (-64) 7 (-64) 64 k lo hi) (hk : k ≤ 56) : szR lo 20 ∧ szR hi 20 := by
  have z1 : szR (-64) 1 := ⟨lim_len_lt (by decide +kernel), lim_len_lt (by decide +kernel)⟩
  exact ⟨szR_mono (ds_sz S.dlo (by omega) (by omega) z1 (by omega)) (by omega), szR_mono (ds_sz S.dhi (by omega) (by omega) z1 (by omega)) (by omega)⟩
end
end Go.Proofs.YtecjelnpmcnbaaaGreat
namespace Go.Proofs.YtecjelnpmcnbaaaGreat
open Go.Ev
end Go.Proofs.YtecjelnpmcnbaaaGreat
namespace Go.Proofs.YtecjelnpmcnbaaaGreat
open Go.Ev
end Go.Proofs.YtecjelnpmcnbaaaGreat
namespace Go.Proofs.YtecjelnpmcnbaaaGreat
open Go.Ev
end Go.Proofs.YtecjelnpmcnbaaaGreat
namespace Go.Proofs.YtecjelnpmcnbaaaGreat
open Go.Ev
end Go.Proofs.YtecjelnpmcnbaaaGreat
namespace Go.Proofs.YtecjelnpmcnbaaaGreat
open Go.Ev
section
variable {k n m : Int} {sa sb sq : Bool} {na da nb db nq dq : List Nat} {a b q : Rat} {L : Nat}
end
end Go.Proofs.YtecjelnpmcnbaaaGreat
namespace Go.Proofs.YtecjelnpmcnbaaaGreat
open Go.Ev
end Go.Proofs.YtecjelnpmcnbaaaGreat
namespace Go.Proofs.YtecjelnpmcnbaaaGreat
open Go.Ev
section
variable {k n m : Int} {sa sb sq : Bool} {na da nb db nq dq : List Nat} {a b q : Rat} {L : Nat}
end
theorem known15_fn : Go.Ev.Fn CX 10 [] (.bool true) := says_fn (n := 80) (by kernel_rfl)
section
variable {k n m : Int} {sa sb : Bool} {na da nb db : List Nat}
end
section
variable {N K : Nat} {sa sq : Bool} {na da nq dq : List Nat} {a q : Rat}
end
end Go.Proofs.YtecjelnpmcnbaaaGreat
namespace Go.Proofs.YtecjelnpmcnbaaaGreat
open Go.Ev
theorem lit_of {a b : Nat} (ha : 1 ≤ a ∧ a ≤ 3) (hb : 1 ≤ b ∧ b ≤ 3) : Go.Ev.Fn CX 14 [.bool false, natV [a], natV [b]] (rv (mkRat (a : Int) b)) := by
  have h := ref2_Of false [a] [b] (by intro x hx; rw [List.mem_singleton.1 hx]; omega) (by intro x hx; rw [List.mem_singleton.1 hx]; omega) (by simp) (by simp)
  have e : ∀ c : Nat, wth [c] = c := fun c => by simp [wth]
  rw [e, e] at h
  exact h
theorem ref4_SideQ {a b c d : Rat} {L M : Nat} (ha : szR a L) (hb : szR b L) (hc : szR c M) (hd : szR d M) (hL1 : 1 ≤ L) (hM1 : 1 ≤ M) (hL : L + M ≤ 100000) (h : a ≤ d) : ∃ k : Int, k ≤ 0 ∧ -1 ≤ k ∧ Go.Ev.Fn CX 17 [ballR a b, ballR c d] (.int .i64 k) := by
  have c1 := ref2_Cmp (RatA_rv hb) (RatA_rv hc) hL1 hM1 (by omega)
  have c2 := ref2_Cmp (RatA_rv ha) (RatA_rv hd) hL1 hM1 (by omega)
  have e2 : decide (cmpR a d > 0) = false := by rw [cmpR_gt]; exact decide_eq_false (Rat.not_lt.2 h)
  by_cases g : b < c
  · have e1 : decide (cmpR b c < 0) = true := by rw [cmpR_lt]; exact decide_eq_true g
    refine ⟨-1, by omega, by omega, ?_⟩
    clear g h
    generalize cmpR b c = y1 at *
    generalize cmpR a d = y2 at *
    refine Go.Ev.Fn.intro (fn := Tryz.f17) (body := (Tryz.f17).body.get!) (by kernel_rfl) (by kernel_rfl) (by kernel_rfl) (fun _ => rfl) (Nat.le_of_ble_eq_true (by kernel_rfl)) ?_; unfold Tryz.f17; simp only [Option.get!_some]
    repeat (first | (simp only [go_sem, e1, e2]) | (simp (disch := (first | omega | (simp only [AL, List.length_map]; omega))) only [AR, AL, ifT, ifF, take_all, List.length_cons, List.length_nil, Int.reduceToNat, Int.reducePow, Nat.reducePow, e1, e2]) | (refine wk_intro (by kernel_rfl) ?_) | (refine vf_of (by first | exact c1) ?_))
  · have e1 : decide (cmpR b c < 0) = false := by rw [cmpR_lt]; exact decide_eq_false g
    refine ⟨0, by omega, by omega, ?_⟩
    clear g h
    generalize cmpR b c = y1 at *
    generalize cmpR a d = y2 at *
    refine Go.Ev.Fn.intro (fn := Tryz.f17) (body := (Tryz.f17).body.get!) (by kernel_rfl) (by kernel_rfl) (by kernel_rfl) (fun _ => rfl) (Nat.le_of_ble_eq_true (by kernel_rfl)) ?_; unfold Tryz.f17; simp only [Option.get!_some]
    repeat (first | (simp only [go_sem, e1, e2]) | (simp (disch := (first | omega | (simp only [AL, List.length_map]; omega))) only [AR, AL, ifT, ifF, take_all, List.length_cons, List.length_nil, Int.reduceToNat, Int.reducePow, Nat.reducePow, e1, e2]) | (refine wk_intro (by kernel_rfl) ?_) | (refine vf_of (by first | exact c1 | exact c2) ?_))
set_option maxHeartbeats 4000000 in
theorem middle_law (ss0 : List SV) (sh0 : ShpT Tryz.prog 6 24 ss0) (a1 : Int) (w1 : (Lit.int .i64 a1).wf = true) (a2 : Int) (w2 : (Lit.int .i64 a2).wf = true) :
    Go.Ev.Fn CX 4 [.agg ss0, .int .i64 a1, .int .i64 a2] (.bool true) := by
  obtain ⟨s, nn, dd, rfl, hnn, hdd, -, -⟩ := shp_rat sh0
  by_cases h3 : 1 < nn.length
  · refine Go.Ev.Fn.intro (fn := Tryz.f4) (body := (Tryz.f4).body.get!) (by kernel_rfl) (by kernel_rfl) (by kernel_rfl) (fun _ => rfl) (Nat.le_of_ble_eq_true (by kernel_rfl)) ?_; unfold Tryz.f4; simp only [Option.get!_some]
    repeat (first | (simp only [go_sem]) | (simp (disch := (first | omega | (simp only [AL, List.length_map]; omega))) only [AR, AL, ifT, ifF, take_all, List.length_cons, List.length_nil, Int.reduceToNat, Int.reducePow, Nat.reducePow]) | (refine wk_intro (by kernel_rfl) ?_) | (refine vp_draw (id := 4) (l := []) (by kernel_rfl) ?_) | (refine vp_draw (id := 6) (l := [64, 65]) (by kernel_rfl) ?_) | (refine vp_draw (id := 7) (l := []) (by kernel_rfl) ?_))
  by_cases h4 : 1 < dd.length
  · refine Go.Ev.Fn.intro (fn := Tryz.f4) (body := (Tryz.f4).body.get!) (by kernel_rfl) (by kernel_rfl) (by kernel_rfl) (fun _ => rfl) (Nat.le_of_ble_eq_true (by kernel_rfl)) ?_; unfold Tryz.f4; simp only [Option.get!_some]
    repeat (first | (simp only [go_sem]) | (simp (disch := (first | omega | (simp only [AL, List.length_map]; omega))) only [AR, AL, ifT, ifF, take_all, List.length_cons, List.length_nil, Int.reduceToNat, Int.reducePow, Nat.reducePow]) | (refine wk_intro (by kernel_rfl) ?_) | (refine vp_draw (id := 4) (l := []) (by kernel_rfl) ?_) | (refine vp_draw (id := 6) (l := [64, 65]) (by kernel_rfl) ?_) | (refine vp_draw (id := 7) (l := []) (by kernel_rfl) ?_))
  by_cases h1 : a1 < 1
  · refine Go.Ev.Fn.intro (fn := Tryz.f4) (body := (Tryz.f4).body.get!) (by kernel_rfl) (by kernel_rfl) (by kernel_rfl) (fun _ => rfl) (Nat.le_of_ble_eq_true (by kernel_rfl)) ?_; unfold Tryz.f4; simp only [Option.get!_some]
    repeat (first | (simp only [go_sem]) | (simp (disch := (first | omega | (simp only [AL, List.length_map]; omega))) only [AR, AL, ifT, ifF, take_all, List.length_cons, List.length_nil, Int.reduceToNat, Int.reducePow, Nat.reducePow]) | (refine wk_intro (by kernel_rfl) ?_) | (refine vp_draw (id := 4) (l := []) (by kernel_rfl) ?_) | (refine vp_draw (id := 6) (l := [64, 65]) (by kernel_rfl) ?_) | (refine vp_draw (id := 7) (l := []) (by kernel_rfl) ?_))
  by_cases h2 : 16 < a1
  · refine Go.Ev.Fn.intro (fn := Tryz.f4) (body := (Tryz.f4).body.get!) (by kernel_rfl) (by kernel_rfl) (by kernel_rfl) (fun _ => rfl) (Nat.le_of_ble_eq_true (by kernel_rfl)) ?_; unfold Tryz.f4; simp only [Option.get!_some]
    repeat (first | (simp only [go_sem]) | (simp (disch := (first | omega | (simp only [AL, List.length_map]; omega))) only [AR, AL, ifT, ifF, take_all, List.length_cons, List.length_nil, Int.reduceToNat, Int.reducePow, Nat.reducePow]) | (refine wk_intro (by kernel_rfl) ?_) | (refine vp_draw (id := 4) (l := []) (by kernel_rfl) ?_) | (refine vp_draw (id := 6) (l := [64, 65]) (by kernel_rfl) ?_) | (refine vp_draw (id := 7) (l := []) (by kernel_rfl) ?_))
  by_cases h5 : a2 < 0
  · refine Go.Ev.Fn.intro (fn := Tryz.f4) (body := (Tryz.f4).body.get!) (by kernel_rfl) (by kernel_rfl) (by kernel_rfl) (fun _ => rfl) (Nat.le_of_ble_eq_true (by kernel_rfl)) ?_; unfold Tryz.f4; simp only [Option.get!_some]
    repeat (first | (simp only [go_sem]) | (simp (disch := (first | omega | (simp only [AL, List.length_map]; omega))) only [AR, AL, ifT, ifF, take_all, List.length_cons, List.length_nil, Int.reduceToNat, Int.reducePow, Nat.reducePow]) | (refine wk_intro (by kernel_rfl) ?_) | (refine vp_draw (id := 4) (l := []) (by kernel_rfl) ?_) | (refine vp_draw (id := 6) (l := [64, 65]) (by kernel_rfl) ?_) | (refine vp_draw (id := 7) (l := []) (by kernel_rfl) ?_))
  by_cases h6 : 16 < a2
  · refine Go.Ev.Fn.intro (fn := Tryz.f4) (body := (Tryz.f4).body.get!) (by kernel_rfl) (by kernel_rfl) (by kernel_rfl) (fun _ => rfl) (Nat.le_of_ble_eq_true (by kernel_rfl)) ?_; unfold Tryz.f4; simp only [Option.get!_some]
    repeat (first | (simp only [go_sem]) | (simp (disch := (first | omega | (simp only [AL, List.length_map]; omega))) only [AR, AL, ifT, ifF, take_all, List.length_cons, List.length_nil, Int.reduceToNat, Int.reducePow, Nat.reducePow]) | (refine wk_intro (by kernel_rfl) ?_) | (refine vp_draw (id := 4) (l := []) (by kernel_rfl) ?_) | (refine vp_draw (id := 6) (l := [64, 65]) (by kernel_rfl) ?_) | (refine vp_draw (id := 7) (l := []) (by kernel_rfl) ?_))
  obtain ⟨n, rfl⟩ : ∃ n : Nat, a1 = n := ⟨a1.toNat, by omega⟩
  obtain ⟨p, rfl⟩ : ∃ p : Nat, a2 = p := ⟨a2.toNat, by omega⟩
  have hn : 1 ≤ n ∧ n ≤ 16 := by omega
  have hp : p ≤ 16 := by omega
  have hK := known15_fn
  obtain ⟨a, ha⟩ : ∃ q : Rat, q = mkRat (sgn s (wth nn)) (wth dd) := ⟨_, rfl⟩
  have hv : RatA (ratV s nn dd) a 1 := ⟨s, nn, dd, rfl, hnn, hdd, by omega, by omega, ha⟩
  have za := szR_of hv (by omega)
  have z3 : szR 3 1 := ⟨lim_len_lt (by decide +kernel), lim_len_lt (by decide +kernel)⟩
  have zh : szR (1 / 2) 1 := ⟨lim_len_lt (by decide +kernel), lim_len_lt (by decide +kernel)⟩
  have zt : szR (2 / 3) 1 := ⟨lim_len_lt (by decide +kernel), lim_len_lt (by decide +kernel)⟩
  have i3 := ref2_Int 3 (by omega)
  have i0 := ref2_Int 0 (by omega)
  rw [show ((3 : Int) : Rat) = 3 from rfl] at i3
  rw [show ((0 : Int) : Rat) = 0 from rfl] at i0
  have o1 := lit_of (a := 1) (b := 2) (by omega) (by omega)
  have o2 := lit_of (a := 2) (b := 3) (by omega) (by omega)
  rw [show mkRat ((1 : Nat) : Int) 2 = 1 / 2 by decide +kernel] at o1
  rw [show mkRat ((2 : Nat) : Int) 3 = 2 / 3 by decide +kernel] at o2
  have q1 : (1 / 2 : Rat) ≤ 2 / 3 := by decide +kernel
  obtain ⟨k, lo, hi, S, hk, f⟩ := nm_of hp hv (RatA_rv z3) (RatA_rv zh) Rat.le_refl q1
  obtain ⟨k2, lo2, hi2, S2, hk2, f2⟩ := st_of hp hn (RatA_rv zh)
  obtain ⟨k3, lo3, hi3, S3, hk3, f3⟩ := nm_of hp hv (RatA_rv z3) (RatA_rv zt) q1 Rat.le_refl
  obtain ⟨e1, e2⟩ := nm_ends S Rat.le_refl
  obtain ⟨e3, e4⟩ := st_ends hn S2
  obtain ⟨e5, -⟩ := nm_ends S3 q1
  have e2 := e2 rfl
  obtain ⟨y1, y2⟩ := nm_szs za S hk
  obtain ⟨y3, y4⟩ := st_szs S2 hk2
  obtain ⟨y5, y6⟩ := nm_szs za S3 hk3
  have g1 := ref4_Has y1 y2 hv (by omega) (by omega) (by omega) e2 e1
  have g2 := ref4_Has y3 y4 (RatA_rv (szR_zero (show 1 ≤ 1 by omega))) (by omega) (by omega) (by omega) e3 e4
  obtain ⟨j, j0, j1, g3⟩ := ref4_SideQ y1 y2 y5 y6 (by omega) (by omega) (by omega) (show lo ≤ hi3 by grind)
  clear S S2 S3 e1 e2 e3 e4 e5 y1 y2 y3 y4 y5 y6 za z3 zh zt q1 hv ha
  generalize (1 / 2 : Rat) = hf at *
  generalize (2 / 3 : Rat) = tt at *
  refine Go.Ev.Fn.intro (fn := Tryz.f4) (body := (Tryz.f4).body.get!) (by kernel_rfl) (by kernel_rfl) (by kernel_rfl) (fun _ => rfl) (Nat.le_of_ble_eq_true (by kernel_rfl)) ?_; unfold Tryz.f4; simp only [Option.get!_some]
  repeat (first | (simp only [go_sem]) | (simp (disch := (first | omega | (simp only [AL, List.length_map]; omega))) only [AR, AL, ifT, ifF, take_all, List.length_cons, List.length_nil, Int.reduceToNat, Int.reducePow, Nat.reducePow]) | (refine wk_intro (by kernel_rfl) ?_) | (refine vp_draw (id := 4) (l := []) (by kernel_rfl) ?_) | (refine vp_draw (id := 6) (l := [64, 65]) (by kernel_rfl) ?_) | (refine vp_draw (id := 7) (l := []) (by kernel_rfl) ?_) | (refine vf_of (by first | exact o1 | exact i3 | exact f | exact f2 | exact o2 | exact f3 | exact g1 | exact i0 | exact g2 | exact g3 | exact hK) ?_))
end Go.Proofs.YtecjelnpmcnbaaaGreat
