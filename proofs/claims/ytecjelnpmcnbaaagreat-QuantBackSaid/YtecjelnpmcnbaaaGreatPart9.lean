/- Part 9 of the proof: the evaluator, contracts of functions and their plain laws (joined by program). No condition. -/
import Derived.Test.YtecjelnpmcnbaaaGreatPart8
set_option linter.unusedVariables false
set_option linter.unusedSimpArgs false
set_option maxRecDepth 100000
namespace Go.Proofs.YtecjelnpmcnbaaaGreat
open Go.Ev
def topOk (a b : Nat) : Bool := match hfGo a b 120 0 1 1 1 with
  | (n, d, s) => Nat.ble (s + 3 * n) (2048 * d)
theorem top_ok1 : (List.range 20).all (fun j => topOk 1 (1 + j)) = true := by decide +kernel
theorem top_ok2 : (List.range 20).all (fun j => topOk 2 (1 + j)) = true := by decide +kernel
theorem top_ok3 : (List.range 20).all (fun j => topOk 3 (1 + j)) = true := by decide +kernel
theorem top_ok4 : (List.range 20).all (fun j => topOk 4 (1 + j)) = true := by decide +kernel
theorem top_ok5 : (List.range 20).all (fun j => topOk 5 (1 + j)) = true := by decide +kernel
theorem top_ok6 : (List.range 20).all (fun j => topOk 6 (1 + j)) = true := by decide +kernel
theorem top_ok7 : (List.range 20).all (fun j => topOk 7 (1 + j)) = true := by decide +kernel
theorem top_ok8 : (List.range 20).all (fun j => topOk 8 (1 + j)) = true := by decide +kernel
theorem top_ok9 : (List.range 20).all (fun j => topOk 9 (1 + j)) = true := by decide +kernel
theorem top_ok10 : (List.range 20).all (fun j => topOk 10 (1 + j)) = true := by decide +kernel
theorem top_ok11 : (List.range 20).all (fun j => topOk 11 (1 + j)) = true := by decide +kernel
theorem top_ok12 : (List.range 20).all (fun j => topOk 12 (1 + j)) = true := by decide +kernel
theorem top_ok13 : (List.range 20).all (fun j => topOk 13 (1 + j)) = true := by decide +kernel
theorem top_ok14 : (List.range 20).all (fun j => topOk 14 (1 + j)) = true := by decide +kernel
theorem top_ok15 : (List.range 20).all (fun j => topOk 15 (1 + j)) = true := by decide +kernel
theorem top_ok16 : (List.range 20).all (fun j => topOk 16 (1 + j)) = true := by decide +kernel
theorem top_ok17 : (List.range 20).all (fun j => topOk 17 (1 + j)) = true := by decide +kernel
theorem top_ok18 : (List.range 20).all (fun j => topOk 18 (1 + j)) = true := by decide +kernel
theorem top_ok19 : (List.range 20).all (fun j => topOk 19 (1 + j)) = true := by decide +kernel
theorem top_ok20 : (List.range 20).all (fun j => topOk 20 (1 + j)) = true := by decide +kernel
theorem top_all {a b : Nat} (h1 : 1 ≤ a) (h2 : a ≤ 20) (h3 : 1 ≤ b) (h4 : b ≤ 20) : topOk a b = true := by
  have g : ∀ c, (List.range 20).all (fun j => topOk c (1 + j)) = true → topOk c b = true := fun c h => by
    have := List.all_eq_true.1 h (b - 1) (List.mem_range.2 (by omega))
    rwa [show 1 + (b - 1) = b by omega] at this
  have hc : a = 1 ∨ a = 2 ∨ a = 3 ∨ a = 4 ∨ a = 5 ∨ a = 6 ∨ a = 7 ∨ a = 8 ∨ a = 9 ∨ a = 10 ∨ a = 11 ∨ a = 12 ∨ a = 13 ∨ a = 14 ∨ a = 15 ∨ a = 16 ∨ a = 17 ∨ a = 18 ∨ a = 19 ∨ a = 20 := by omega
  rcases hc with rfl | rfl | rfl | rfl | rfl | rfl | rfl | rfl | rfl | rfl | rfl | rfl | rfl | rfl | rfl | rfl | rfl | rfl | rfl | rfl
  · exact g 1 top_ok1
  · exact g 2 top_ok2
  · exact g 3 top_ok3
  · exact g 4 top_ok4
  · exact g 5 top_ok5
  · exact g 6 top_ok6
  · exact g 7 top_ok7
  · exact g 8 top_ok8
  · exact g 9 top_ok9
  · exact g 10 top_ok10
  · exact g 11 top_ok11
  · exact g 12 top_ok12
  · exact g 13 top_ok13
  · exact g 14 top_ok14
  · exact g 15 top_ok15
  · exact g 16 top_ok16
  · exact g 17 top_ok17
  · exact g 18 top_ok18
  · exact g 19 top_ok19
  · exact g 20 top_ok20
section
variable {a b k : Nat}
theorem rR_monoX {x y : Rat} (h0 : 0 ≤ x) (h : x ≤ y) (k : Nat) : rR x a b k ≤ rR y a b k := by
  induction k with
  | zero => exact Rat.le_refl
  | succ k ih =>
    have M : (0 : Rat) < ((a + 2 + 2 * k : Nat) : Rat) := by exact_mod_cast (show 0 < a + 2 + 2 * k by omega)
    refine le_by M ?_
    rw [rR_step, rR_step]
    have r0 := rR_nn (x := x) (a := a) (b := b) h0 k
    have n0 := nat_nonneg (a + b + 2 * k)
    have m := mul_both ih h (Rat.le_trans r0 ih) h0
    exact Rat.mul_le_mul_of_nonneg_right m n0
theorem sR_monoX {x y : Rat} (h0 : 0 ≤ x) (h : x ≤ y) (k : Nat) : sR x a b k ≤ sR y a b k := by
  induction k with
  | zero => exact Rat.le_refl
  | succ k ih =>
    have := rR_monoX (a := a) (b := b) h0 h (k + 1)
    show sR x a b k + _ ≤ sR y a b k + _
    grind
theorem sR_most {z : Rat} (ha : 1 ≤ a) (ha2 : a ≤ 20) (hb : 1 ≤ b) (hb2 : b ≤ 20) (h0 : 0 ≤ z) (h : z + z ≤ 1) (k : Nat) : sR z a b k ≤ 2048 := by
  have hh : (1 / 2 : Rat) + 1 / 2 = 1 := by decide +kernel
  have h2 : (0 : Rat) ≤ 1 / 2 := by decide +kernel
  have z2 : z ≤ 1 / 2 := by generalize (1 / 2 : Rat) = hf at *; grind
  have m1 := sR_monoX (a := a) (b := b) h0 z2 k
  have m2 := sR_top (a := a) (b := b) (k := 120) (m := k) h2 (by rw [hh]; exact Rat.le_refl) (by omega)
  obtain ⟨g1, g2, g3⟩ := hfGo_is a b 120 0 1 1 1 (show (1 : Rat) * ((1 : Nat) : Rat) = ((1 : Nat) : Rat) by decide +kernel) (show (1 : Rat) * ((1 : Nat) : Rat) = ((1 : Nat) : Rat) by decide +kernel) (by decide)
  have t := top_all ha ha2 hb hb2
  rw [Nat.zero_add] at g1 g2
  unfold topOk at t
  generalize hfGo a b 120 0 1 1 1 = g at *
  obtain ⟨n, d, s⟩ := g
  have t1 : s + 3 * n ≤ 2048 * d := Nat.le_of_ble_eq_true t
  have t2 : ((s + 3 * n : Nat) : Rat) ≤ ((2048 * d : Nat) : Rat) := by exact_mod_cast t1
  have c1 : ((s + 3 * n : Nat) : Rat) = (s : Rat) + 3 * (n : Rat) := by exact_mod_cast rfl
  have c2 : ((2048 * d : Nat) : Rat) = 2048 * (d : Rat) := by exact_mod_cast rfl
  have d0 : (0 : Rat) < (d : Rat) := by exact_mod_cast g3
  refine Rat.le_trans m1 (Rat.le_trans m2 (le_by d0 ?_))
  have e1 : rR (1 / 2) a b 120 * (d : Rat) = (n : Rat) := g1
  have e2 : sR (1 / 2) a b 120 * (d : Rat) = (s : Rat) := g2
  rw [c1, c2] at t2
  generalize sR (1 / 2) a b 120 = u at *
  generalize rR (1 / 2) a b 120 = v at *
  generalize (n : Rat) = n' at *
  generalize (s : Rat) = s' at *
  generalize (d : Rat) = d' at *
  clear m1 m2
  grind
end
end Go.Proofs.YtecjelnpmcnbaaaGreat
namespace Go.Proofs.YtecjelnpmcnbaaaGreat
open Go.Ev
def Lo1 (a b : Nat) (x l : Rat) : Prop := l ≤ 0 ∨ ∃ K : Nat, ∀ m, K ≤ m → l * l ≤ fsC a b * fsC a b * shG a b m x
def Hi1 (a b : Nat) (x h : Rat) : Prop := 0 ≤ h ∧ ∃ K : Nat, ∀ m, K ≤ m → fsC a b * fsC a b * shG a b m x ≤ h * h
def LoS (a b : Nat) (x l : Rat) : Prop := (x + x ≤ 1 ∧ Lo1 a b x l) ∨ (1 < x + x ∧ Hi1 b a (1 - x) (1 - l))
def HiS (a b : Nat) (x h : Rat) : Prop := (x + x ≤ 1 ∧ Hi1 a b x h) ∨ (1 < x + x ∧ Lo1 b a (1 - x) (1 - h))
section
variable {a b : Nat} {x y l h d c : Rat}
theorem sq_part {l h d : Rat} (hl : 0 ≤ l) (hh : 0 ≤ h) (hd : 0 ≤ d) (hd1 : d ≤ 1) (g : l * l * (2048 + 2 * d) ≤ h * h * 2048) : 4096 * l + l * d ≤ 4096 * h := by
  have k : (4096 * l + l * d) * (4096 * l + l * d) ≤ (4096 * h) * (4096 * h) := by
    have e : (4096 * l + l * d) * (4096 * l + l * d) = l * l * (16777216 + 8192 * d + d * d) := by grind
    have dd : d * d ≤ d := by
      have := Rat.mul_le_mul_of_nonneg_left hd1 hd
      grind
    have m := Rat.mul_le_mul_of_nonneg_left (show 16777216 + 8192 * d + d * d ≤ 16777216 + 16384 * d by grind) (mul_self_nn l)
    rw [e]
    refine Rat.le_trans m ?_
    grind
  exact sq_mon (by have := Rat.mul_nonneg hl hd; grind) (by grind) k
theorem grow1 (ha : 1 ≤ a) (ha2 : a ≤ 20) (hb : 1 ≤ b) (hb2 : b ≤ 20) (h0 : 0 < x) (hxy : x ≤ y) (hy : y + y ≤ 1) (hl : 0 < l) (A : Lo1 a b x l) (B : Hi1 a b y h) : 4096 * l + l * (y - x) ≤ 4096 * h := by
  obtain ⟨B0, K', B⟩ := B
  rcases A with A | ⟨K, A⟩
  · exact absurd A (by grind)
  refine sq_part (by grind) B0 (by grind) (by grind) ?_
  have g := A (max (max K K') 160) (by omega)
  have g' := B (max (max K K') 160) (by omega)
  have m := shG_grow (a := a) (b := b) (k := max (max K K') 160) (M := 2048) ha ha2 hb2 (by omega) h0 hxy hy fun z z0 z1 => sR_most ha ha2 hb hb2 z0 z1 _
  have C : 0 ≤ fsC a b * fsC a b := mul_self_nn _
  have m2 := Rat.mul_le_mul_of_nonneg_left m C
  have g2 := Rat.mul_le_mul_of_nonneg_right g (show 0 ≤ 2048 + 2 * (y - x) by grind)
  generalize shG a b (max (max K K') 160) x = u at *
  generalize shG a b (max (max K K') 160) y = v at *
  generalize fsC a b * fsC a b = w at *
  grind
theorem half1 (ha : 1 ≤ a) (ha2 : a ≤ 20) (hb : 1 ≤ b) (hb2 : b ≤ 20) : Hi1 a b (1 / 2) (hfHi a b) := by
  refine ⟨hfHi_nn ha ha2 hb hb2, 160, fun m hm => ?_⟩
  have hh : (1 / 2 : Rat) + 1 / 2 = 1 := by decide +kernel
  have h2 : (0 : Rat) ≤ 1 / 2 := by decide +kernel
  have e1 : (1 : Rat) - 1 / 2 = 1 / 2 := by decide +kernel
  have t := sh_hi (a := a) (b := b) (k := m) (x := 1 / 2) (sx := S2) (sy := S2) h2 (by decide +kernel) S2_sq.1 (by rw [e1]; exact S2_sq.1)
  rw [fstR_is] at t
  have G := fsG_nn ha hb ha2 hb2
  have F := Rat.mul_nonneg G (Rat.mul_nonneg (rtF_nn a S2_nn) (rtF_nn b S2_nn))
  have s := Rat.mul_le_mul_of_nonneg_left (sR_top (a := a) (b := b) (k := 120) (m := m) h2 (by rw [hh]; exact Rat.le_refl) (by omega)) F
  have s0 := Rat.mul_nonneg F (sR_nnH (a := a) (b := b) h2 m)
  unfold hfHi
  exact Rat.le_trans t (mul_both s s (Rat.le_trans s0 s) s0)
theorem cross (ha : 1 ≤ a) (ha2 : a ≤ 20) (hb : 1 ≤ b) (hb2 : b ≤ 20) (h0 : 0 < x) (hx : x + x ≤ 1) (hl : 0 < l) (A : Lo1 a b x l) : 4096 * l + l * (1 / 2 - x) ≤ 4096 * hfHi a b := by
  have hh : (1 / 2 : Rat) + 1 / 2 = 1 := by decide +kernel
  have H := half1 ha ha2 hb hb2
  generalize (1 / 2 : Rat) = hf at *
  exact grow1 ha ha2 hb hb2 h0 (by grind) (by grind) hl A H
theorem gap (ha : 1 ≤ a) (ha2 : a ≤ 20) (hb : 1 ≤ b) (hb2 : b ≤ 20) (h0 : 0 < x) (hxy : x ≤ y) (hy : y < 1) (hc : 0 < c) (hl : c ≤ l) (hh : h ≤ 1 - c) (A : LoS a b x l) (B : HiS a b y h) :
    (4096 * l + c * (y - x)) * 18014398509481984 ≤ 4096 * h * 18014398509481984 + 1 := by
  have l0 : 0 < l := by grind
  have n0 : 0 < 1 - h := by grind
  have cd := fun (z : Rat) (hz : 0 ≤ z) => Rat.mul_le_mul_of_nonneg_right hl hz
  have ce := fun (z : Rat) (hz : 0 ≤ z) => Rat.mul_le_mul_of_nonneg_right (show c ≤ 1 - h by grind) hz
  rcases A with ⟨k, A⟩ | ⟨k, A⟩ <;> rcases B with ⟨k', B⟩ | ⟨k', B⟩
  · have g := grow1 ha ha2 hb hb2 h0 hxy k' l0 A B
    have := cd (y - x) (by grind)
    grind
  · have g := cross ha ha2 hb hb2 h0 k l0 A
    have g' := cross hb hb2 ha ha2 (show 0 < 1 - y by grind) (by grind) n0 B
    have s := (hf_sum ha hb ha2 hb2).2
    have hf2 : (1 / 2 : Rat) + 1 / 2 = 1 := by decide +kernel
    generalize (1 / 2 : Rat) = hf at *
    have u1 := cd (hf - x) (by grind)
    have u2 := ce (hf - (1 - y)) (by grind)
    have e : c * (y - x) = c * (hf - x) + c * (hf - (1 - y)) := by grind
    rw [Rat.add_mul, e]
    generalize hfHi a b = w1 at *
    generalize hfHi b a = w2 at *
    generalize c * (hf - x) = c1 at *
    generalize c * (hf - (1 - y)) = c2 at *
    generalize l * (hf - x) = c3 at *
    generalize (1 - h) * (hf - (1 - y)) = c4 at *
    clear cd ce A B e
    grind
  · exact absurd k (by grind)
  · have g := grow1 hb hb2 ha ha2 (show 0 < 1 - y by grind) (show 1 - y ≤ 1 - x by grind) (by grind) n0 B A
    have := ce (1 - x - (1 - y)) (by grind)
    have e : 1 - x - (1 - y) = y - x := by grind
    rw [e] at g this
    grind
end
end Go.Proofs.YtecjelnpmcnbaaaGreat
namespace Go.Proofs.YtecjelnpmcnbaaaGreat
open Go.Ev
section
variable {a b p A B : Nat} {x l h : Rat}
theorem told_dn (A p : Nat) : toldLo A p * p2 (p + 300) ≤ (A : Rat) := by
  have e : p2 (p + 300) = p2 (p + 2) * p2 (p + 300 - (p + 2)) := by rw [← p2_plus]; congr 1; omega
  have m := mk_p2n (A / 2 ^ (p + 300 - (p + 2))) (p + 2)
  unfold toldLo
  rw [e, ← Rat.mul_assoc, m]
  exact floor_le
theorem told_up (B p : Nat) : (B : Rat) ≤ toldHi B p * p2 (p + 300) := by
  have e : p2 (p + 300) = p2 (p + 2) * p2 (p + 300 - (p + 2)) := by rw [← p2_plus]; congr 1; omega
  have m := mk_p2n (B / 2 ^ (p + 300 - (p + 2)) + 1) (p + 2)
  unfold toldHi
  rw [e, ← Rat.mul_assoc, m]
  exact le_floor (Nat.pow_pos (by omega))
theorem row_Lo1 (rs : RowS a b (p + 300) x A B) : Lo1 a b x (toldLo A p) := by
  by_cases t0 : toldLo A p ≤ 0
  · exact .inl t0
  obtain ⟨K, hK⟩ := rs
  refine .inr ⟨K, fun m hm => ?_⟩
  have g := (hK m hm).1
  have P := p2_pos (p + 300)
  have t := told_dn A p
  have tn : 0 ≤ toldLo A p * p2 (p + 300) := Rat.mul_nonneg (by grind) (Rat.le_of_lt P)
  have mm := mul_both t t (nat_nonneg A) tn
  refine le_by (Rat.mul_pos P P) ?_
  generalize toldLo A p = u at *
  generalize p2 (p + 300) = w at *
  have e : u * u * (w * w) = u * w * (u * w) := by grind
  rw [e]
  exact Rat.le_trans mm g
theorem row_Hi1 (rs : RowS a b (p + 300) x A B) : Hi1 a b x (toldHi B p) := by
  obtain ⟨K, hK⟩ := rs
  refine ⟨hi_nn, K, fun m hm => ?_⟩
  have g := (hK m hm).2
  have P := p2_pos (p + 300)
  have t := told_up B p
  have mm := mul_both t t (Rat.le_trans (nat_nonneg B) t) (nat_nonneg B)
  refine le_by (Rat.mul_pos P P) ?_
  generalize toldHi B p = u at *
  generalize p2 (p + 300) = w at *
  have e : u * u * (w * w) = u * w * (u * w) := by grind
  rw [e]
  exact Rat.le_trans g mm
theorem ball_LoHi (g : BallS a b p x l h) : LoS a b x l ∧ HiS a b x h := by
  rcases g with ⟨k, A, B, rs, -, rfl, rfl⟩ | ⟨k, A, B, rs, -, rfl, rfl⟩
  · exact ⟨.inl ⟨k, row_Lo1 rs⟩, .inl ⟨k, row_Hi1 rs⟩⟩
  · refine ⟨.inr ⟨k, ?_⟩, .inr ⟨k, ?_⟩⟩
    · rw [show 1 - (1 - toldHi B p) = toldHi B p by grind]; exact row_Hi1 rs
    · rw [show 1 - (1 - toldLo A p) = toldLo A p by grind]; exact row_Lo1 rs
theorem told_wide {A B p : Nat} (h : B ≤ A + 2 ^ 121) : (toldHi B p - toldLo A p) * p2 p ≤ 1 := by
  unfold toldLo toldHi
  obtain ⟨F, hF, hF2⟩ : ∃ F : Nat, F = p + 300 - (p + 2) ∧ 121 ≤ F := ⟨_, rfl, by omega⟩
  rw [← hF]
  have m1 := mk_p2n (A / 2 ^ F) (p + 2)
  have m2 := mk_p2n (B / 2 ^ F + 1) (p + 2)
  have gap : B / 2 ^ F ≤ A / 2 ^ F + 1 := by
    have h6 : 2 ^ 121 ≤ 2 ^ F := Nat.pow_le_pow_right (by omega) hF2
    have h4 : B ≤ A + 2 ^ F := Nat.le_trans h (Nat.add_le_add_left h6 _)
    have h5 := Nat.div_le_div_right (c := 2 ^ F) h4
    rwa [Nat.add_div_right _ (Nat.pow_pos (by omega))] at h5
  have gapR := nat_le_rat (Nat.add_le_add_right gap 1)
  have c2 : ((A / 2 ^ F + 1 + 1 : Nat) : Rat) = ((A / 2 ^ F : Nat) : Rat) + 2 := by exact_mod_cast rfl
  rw [c2] at gapR
  have hp2 : p2 (p + 2) = p2 p * 4 := by
    rw [p2_plus]; rfl
  rw [hp2] at m1 m2
  clear hF gap h hp2 c2
  generalize mkRat ((A / 2 ^ F : Nat) : Int) (2 ^ (p + 2)) = q1 at *
  generalize mkRat ((B / 2 ^ F + 1 : Nat) : Int) (2 ^ (p + 2)) = q2 at *
  generalize p2 p = w at *
  grind
theorem incb_ballW {L : Nat} {v : SV} (hv : RatA v x L) (hL1 : 1 ≤ L) (hL : L ≤ 190) (ha : 1 ≤ a) (ha2 : a ≤ 20) (hb : 1 ≤ b) (hb2 : b ≤ 20) (hp : p ≤ 200) (h0 : 0 < x) (h1 : x < 1) :
    ∃ l h : Rat, Go.Ev.Fn CX 156 [.int .i64 (a : Int), .int .i64 (b : Int), v, .int .i64 (p : Int)] (.tup [ballR l h, .bool true]) ∧ szR l 200 ∧ szR h 200 ∧ l ≤ h ∧ (h - l) * p2 p ≤ 1 ∧ LoS a b x l ∧ HiS a b x h := by
  have zx := szR_of hv hL1
  have one1 : szR 1 1 := ⟨lim_len_lt (by decide +kernel), lim_len_lt (by decide +kernel)⟩
  by_cases hh : x + x ≤ 1
  · obtain ⟨A, B, f, g2, g3, rs, wd⟩ := row_sq (a := a) (b := b) (p := p) zx hL1 (by omega) ha ha2 hb hb2 (by omega) (Rat.le_of_lt h0) hh
    have f1 := incb_I_lo hv hL1 (by omega) ha ha2 hb hb2 (by omega) h0 hh f ⟨g2, g3⟩
    obtain ⟨z1, z2⟩ := told_sz (p := p) (by omega) g2 g3
    have g : BallS a b p x _ _ := .inl ⟨hh, A, B, rs, rows_ab rs, rfl, rfl⟩
    exact ⟨_, _, f1, szR_mono z1 (by omega), szR_mono z2 (by omega), ball_le g, told_wide wd, (ball_LoHi g).1, (ball_LoHi g).2⟩
  · have zy := szR_sub one1 zx (by omega)
    have hh' : 1 < x + x := by grind
    obtain ⟨A, B, f, g2, g3, rs, wd⟩ := row_sq (x := 1 - x) (a := b) (b := a) (p := p) zy (by omega) (by omega) hb hb2 ha ha2 (by omega) (by grind) (by grind)
    have f1 := incb_I_hi hv hL1 (by omega) ha ha2 hb hb2 (by omega) hh' h1 f ⟨g2, g3⟩
    obtain ⟨z1, z2⟩ := told_sz (p := p) (by omega) g2 g3
    have g : BallS a b p x _ _ := .inr ⟨hh', A, B, rs, rows_ab rs, rfl, rfl⟩
    have w := told_wide (p := p) wd
    exact ⟨_, _, f1, szR_mono (szR_sub one1 z2 (by omega)) (by omega), szR_mono (szR_sub one1 z1 (by omega)) (by omega), ball_le g, by rw [show 1 - toldLo A p - (1 - toldHi B p) = toldHi B p - toldLo A p by grind]; exact w, (ball_LoHi g).1, (ball_LoHi g).2⟩
end
end Go.Proofs.YtecjelnpmcnbaaaGreat
namespace Go.Proofs.YtecjelnpmcnbaaaGreat
open Go.Ev
def Dy (J : Nat) (x : Rat) : Prop := ∃ A : Nat, A ≤ 2 ^ J ∧ x * p2 J = (A : Rat)
theorem p2_cat (a b : Nat) : p2 (a + b) = p2 a * p2 b := by
  have : ((2 ^ a : Nat) : Rat) * ((2 ^ b : Nat) : Rat) = ((2 ^ a * 2 ^ b : Nat) : Rat) := by exact_mod_cast rfl
  rw [this, ← Nat.pow_add]
theorem p2_next (J : Nat) : p2 (J + 1) = p2 J * 2 := by
  rw [p2_cat]
  rfl
theorem dy_zero (J : Nat) : Dy J 0 := ⟨0, Nat.zero_le _, Rat.zero_mul _⟩
theorem dy_one (J : Nat) : Dy J 1 := ⟨2 ^ J, Nat.le_refl _, Rat.one_mul _⟩
theorem dy_up {J : Nat} {x : Rat} (h : Dy J x) : Dy (J + 1) x := by
  obtain ⟨A, hA, e⟩ := h
  refine ⟨A * 2, by rw [Nat.pow_succ]; omega, ?_⟩
  rw [p2_next, ← Rat.mul_assoc, e]
  exact_mod_cast rfl
theorem dy_mid {J : Nat} {x y : Rat} (h : Dy J x) (k : Dy J y) : Dy (J + 1) ((x + y) / 2) := by
  obtain ⟨A, hA, e⟩ := h
  obtain ⟨B, hB, f⟩ := k
  refine ⟨A + B, by rw [Nat.pow_succ]; omega, ?_⟩
  have c : ((A + B : Nat) : Rat) = (A : Rat) + (B : Rat) := by exact_mod_cast rfl
  rw [p2_next, c, ← e, ← f]
  generalize p2 J = w
  grind
theorem dy_sub {J s : Nat} {x t : Rat} (h : Dy J x) (hs : s ≤ J) (ht : t * p2 s = 1) (h0 : 0 ≤ x - t) : Dy J (x - t) := by
  obtain ⟨A, hA, e⟩ := h
  obtain ⟨r, rfl⟩ : ∃ r, J = s + r := ⟨J - s, by omega⟩
  have et : t * p2 (s + r) = p2 r := by rw [p2_cat, ← Rat.mul_assoc, ht, Rat.one_mul]
  have P := p2_pos (s + r)
  have n := Rat.mul_nonneg h0 (Rat.le_of_lt P)
  have e2 : (x - t) * p2 (s + r) = (A : Rat) - p2 r := by
    rw [← e, ← et]
    generalize p2 (s + r) = w
    grind
  rw [e2] at n
  have hle : 2 ^ r ≤ A := by
    have : p2 r ≤ (A : Rat) := by grind
    exact_mod_cast this
  refine ⟨A - 2 ^ r, Nat.le_trans (Nat.sub_le _ _) hA, ?_⟩
  rw [e2]
  have c : ((A - 2 ^ r : Nat) : Rat) + p2 r = (A : Rat) := by
    have : A - 2 ^ r + 2 ^ r = A := by omega
    exact_mod_cast this
  grind
theorem dy_add {J s : Nat} {x t : Rat} (h : Dy J x) (hs : s ≤ J) (ht : t * p2 s = 1) (h1 : x + t ≤ 1) : Dy J (x + t) := by
  obtain ⟨A, hA, e⟩ := h
  obtain ⟨r, rfl⟩ : ∃ r, J = s + r := ⟨J - s, by omega⟩
  have et : t * p2 (s + r) = p2 r := by rw [p2_cat, ← Rat.mul_assoc, ht, Rat.one_mul]
  have P := p2_pos (s + r)
  have n := Rat.mul_le_mul_of_nonneg_right h1 (Rat.le_of_lt P)
  have e2 : (x + t) * p2 (s + r) = ((A + 2 ^ r : Nat) : Rat) := by
    have c : ((A + 2 ^ r : Nat) : Rat) = (A : Rat) + p2 r := by exact_mod_cast rfl
    rw [c, ← e, ← et]
    generalize p2 (s + r) = w
    grind
  rw [e2, Rat.one_mul] at n
  exact ⟨A + 2 ^ r, by exact_mod_cast n, e2⟩
theorem dy_eq {J : Nat} {x : Rat} (h : Dy J x) : ∃ A : Nat, A ≤ 2 ^ J ∧ x = mkRat (A : Int) (2 ^ J) := by
  obtain ⟨A, hA, e⟩ := h
  refine ⟨A, hA, ?_⟩
  have P := p2_pos J
  rw [Rat.mkRat_eq_div]
  have h : x = (A : Rat) / p2 J := by
    rw [← e]
    generalize p2 J = w at *
    grind
  rw [h]
  rfl
theorem dy_sz {J : Nat} {x : Rat} (h : Dy J x) (hJ : J < 96) : szR x 3 := by
  obtain ⟨A, hA, rfl⟩ := dy_eq h
  have h2 : 2 ^ J < 4294967296 ^ 3 := Nat.lt_of_lt_of_le (Nat.pow_lt_pow_right (a := 2) (by omega) hJ) (by decide)
  have l1 : (lim A).length ≤ 3 := lim_len_lt (by omega)
  have l2 : (lim (2 ^ J)).length ≤ 3 := lim_len_lt h2
  exact szR_mk (s := false) l1 l2 (by omega)
end Go.Proofs.YtecjelnpmcnbaaaGreat
namespace Go.Proofs.YtecjelnpmcnbaaaGreat
open Go.Ev
def LowOk (a b : Nat) (q x : Rat) : Prop := 0 ≤ x ∧ (x = 0 ∨ (x < 1 ∧ ∃ h, HiS a b x h ∧ h < q))
def HighOk (a b : Nat) (q x : Rat) : Prop := x ≤ 1 ∧ (x = 1 ∨ (0 < x ∧ ∃ l, LoS a b x l ∧ q < l))
def Near (a b : Nat) (q x : Rat) : Prop := ∃ l h, LoS a b x l ∧ HiS a b x h ∧ l ≤ q ∧ q ≤ h ∧ (h - l) * 1267650600228229401496703205376 ≤ 1
theorem not_near {a b : Nat} {q x y : Rat} (ha : 1 ≤ a) (ha2 : a ≤ 20) (hb : 1 ≤ b) (hb2 : b ≤ 20) (h0 : 0 < x) (hxy : 1 ≤ (y - x) * 131072) (hy : y < 1) (q0 : 1 ≤ q * 4294967296) (q1 : 1 ≤ (1 - q) * 4294967296)
    (A : Near a b q x) (B : Near a b q y) : False := by
  obtain ⟨l, h, L, H, hl, hh, hw⟩ := A
  obtain ⟨l', h', L', H', hl', hh', hw'⟩ := B
  have g := gap (c := 1 / 8589934592) ha ha2 hb hb2 h0 (show x ≤ y by grind) hy (by decide +kernel) (by grind) (by grind) L H'
  grind
structure Srch (a b : Nat) (q : Rat) (k : Nat) (lo hi : Rat) : Prop where
  low : LowOk a b q lo
  high : HighOk a b q hi
  lt : lo < hi
  dlo : Dy (18 + k) lo
  dhi : Dy (18 + k) hi
  w : (hi - lo) * ((4 ^ k : Nat) : Rat) ≤ ((3 ^ k : Nat) : Rat)
theorem srch_start {a b : Nat} {q : Rat} : Srch a b q 0 0 1 :=
  ⟨⟨Rat.le_refl, .inl rfl⟩, ⟨Rat.le_refl, .inl rfl⟩, by decide +kernel, dy_zero _, dy_one _, by decide +kernel⟩
theorem srch_k {a b : Nat} {q lo hi : Rat} {k : Nat} (h : Srch a b q k lo hi) (hw : 1 < (hi - lo) * 65536) : k < 39 := by
  rcases Nat.lt_or_ge k 39 with h1 | h1
  · exact h1
  · exfalso
    obtain ⟨r, rfl⟩ : ∃ r, k = 39 + r := ⟨k - 39, by omega⟩
    have hh := h.w
    have e4 : ((4 ^ (39 + r) : Nat) : Rat) = ((4 ^ 39 : Nat) : Rat) * ((4 ^ r : Nat) : Rat) := by rw [Nat.pow_add]; exact_mod_cast rfl
    have e3 : ((3 ^ (39 + r) : Nat) : Rat) = ((3 ^ 39 : Nat) : Rat) * ((3 ^ r : Nat) : Rat) := by rw [Nat.pow_add]; exact_mod_cast rfl
    have h34 : ((3 ^ r : Nat) : Rat) ≤ ((4 ^ r : Nat) : Rat) := by
      have := Nat.pow_le_pow_left (show 3 ≤ 4 by omega) r
      exact_mod_cast this
    have p4 : (0 : Rat) < ((4 ^ r : Nat) : Rat) := by
      have : 0 < 4 ^ r := Nat.pow_pos (by omega)
      exact_mod_cast this
    have c4 : ((4 ^ 39 : Nat) : Rat) = 302231454903657293676544 := by decide +kernel
    have c3 : ((3 ^ 39 : Nat) : Rat) = 4052555153018976267 := by decide +kernel
    rw [e4, e3, c4, c3] at hh
    generalize ((4 ^ r : Nat) : Rat) = F at *
    generalize ((3 ^ r : Nat) : Rat) = T at *
    have m := Rat.mul_le_mul_of_nonneg_right (Rat.le_of_lt hw) (Rat.le_of_lt p4)
    grind
theorem srch_w {k : Nat} {w w' : Rat} (h : w * ((4 ^ k : Nat) : Rat) ≤ ((3 ^ k : Nat) : Rat)) (hw : w' * 4 ≤ w * 3) : w' * ((4 ^ (k + 1) : Nat) : Rat) ≤ ((3 ^ (k + 1) : Nat) : Rat) := by
  have e4 : ((4 ^ (k + 1) : Nat) : Rat) = ((4 ^ k : Nat) : Rat) * 4 := by rw [Nat.pow_succ]; exact_mod_cast rfl
  have e3 : ((3 ^ (k + 1) : Nat) : Rat) = ((3 ^ k : Nat) : Rat) * 3 := by rw [Nat.pow_succ]; exact_mod_cast rfl
  have p4 : (0 : Rat) ≤ ((4 ^ k : Nat) : Rat) := nat_nonneg _
  rw [e4, e3]
  generalize ((4 ^ k : Nat) : Rat) = F at *
  generalize ((3 ^ k : Nat) : Rat) = T at *
  have m := Rat.mul_le_mul_of_nonneg_right hw p4
  grind
section
variable {a b k : Nat} {q lo hi lo' hi' : Rat}
theorem srch_next (h : Srch a b q k lo hi) (l' : LowOk a b q lo') (h' : HighOk a b q hi') (hlt : lo' < hi') (d1 : Dy (18 + (k + 1)) lo') (d2 : Dy (18 + (k + 1)) hi') (hw : (hi' - lo') * 4 ≤ (hi - lo) * 3) : Srch a b q (k + 1) lo' hi' :=
  ⟨l', h', hlt, d1, d2, srch_w h.w hw⟩
end
end Go.Proofs.YtecjelnpmcnbaaaGreat
namespace Go.Proofs.YtecjelnpmcnbaaaGreat
open Go.Ev
abbrev distV (k n m : Int) (sa : Bool) (na da : List Nat) (sb : Bool) (nb db : List Nat) : SV :=
  .agg [.int .i64 k, .int .i64 n, .int .i64 m, .bool sa, natV na, natV da, .bool sb, natV nb, natV db]
section
variable {k n m : Int} {sa sb : Bool} {na da nb db : List Nat} {a b : Rat} {L : Nat}
theorem dist_above {v : SV} {q : Rat} {L : Nat} (hv : RatA v q L) (hL : 1 ≤ L) (h : L ≤ 1048576) (n : Int) (hn : -9223372036854775808 ≤ n ∧ n < 9223372036854775808) : Go.Ev.Fn CX 101 [v, .int .i64 n] (.bool (decide ((n : Rat) < q))) := by
  have hI := rat_Int n hn
  have hC := rat_Cmp hv (RatA_rv (int_szR (n := n) (by omega))) hL (by omega) (by omega)
  obtain ⟨s, x, d, rfl, -⟩ := hv
  refine Go.Ev.Fn.intro (fn := Tryz.f101) (body := (Tryz.f101).body.get!) (by kernel_rfl) (by kernel_rfl) (by kernel_rfl) (fun _ => rfl) (Nat.le_of_ble_eq_true (by kernel_rfl)) ?_; unfold Tryz.f101; simp only [Option.get!_some]
  repeat (first | (simp only [go_sem, Nat.reduceEqDiff, Nat.reduceAdd, Nat.reduceSub, Nat.reduceMul, Nat.reduceLeDiff, Nat.reduceLT, reduceIte, reduceCtorEq, Nat.succ_ne_zero, elemsC, Int.reduceToNat, Nat.reducePow, cmpR_gt]) | (simp (disch := (first | omega | (simp only [AL, List.length_map]; omega))) only [AR, AL, ifT, ifF, take_all, List.length_cons, List.length_nil, Int.reduceToNat, Int.reducePow, Nat.reducePow, cmpR_gt]) | (refine wk_intro (by kernel_rfl) ?_) | (refine vp_draw (id := 1) (l := []) (by kernel_rfl) ?_) | (refine vf_of (by first | exact hI | exact hC) ?_))
theorem dist_below {v : SV} {q : Rat} {L : Nat} (hv : RatA v q L) (hL : 1 ≤ L) (h : L ≤ 1048576) (n : Int) (hn : -9223372036854775808 ≤ n ∧ n < 9223372036854775808) : Go.Ev.Fn CX 102 [v, .int .i64 n] (.bool (decide (q < (n : Rat)))) := by
  have hI := rat_Int n hn
  have hC := rat_Cmp hv (RatA_rv (int_szR (n := n) (by omega))) hL (by omega) (by omega)
  obtain ⟨s, x, d, rfl, -⟩ := hv
  refine Go.Ev.Fn.intro (fn := Tryz.f102) (body := (Tryz.f102).body.get!) (by kernel_rfl) (by kernel_rfl) (by kernel_rfl) (fun _ => rfl) (Nat.le_of_ble_eq_true (by kernel_rfl)) ?_; unfold Tryz.f102; simp only [Option.get!_some]
  repeat (first | (simp only [go_sem, Nat.reduceEqDiff, Nat.reduceAdd, Nat.reduceSub, Nat.reduceMul, Nat.reduceLeDiff, Nat.reduceLT, reduceIte, reduceCtorEq, Nat.succ_ne_zero, elemsC, Int.reduceToNat, Nat.reducePow, cmpR_lt]) | (simp (disch := (first | omega | (simp only [AL, List.length_map]; omega))) only [AR, AL, ifT, ifF, take_all, List.length_cons, List.length_nil, Int.reduceToNat, Int.reducePow, Nat.reducePow, cmpR_lt]) | (refine wk_intro (by kernel_rfl) ?_) | (refine vp_draw (id := 1) (l := []) (by kernel_rfl) ?_) | (refine vf_of (by first | exact hI | exact hC) ?_))
theorem ref14_positive {v : SV} {q : Rat} {L : Nat} (hv : RatA v q L) (hL : 1 ≤ L) (h : L ≤ 1048576) : Go.Ev.Fn CX 49 [v] (.bool (decide (0 < q))) := by
  have hI := ref2_Int 0 (by omega)
  have hC := ref2_Cmp hv (RatA_rv (int_szR (n := 0) (by omega))) hL (by omega) (by omega)
  rw [show ((0 : Int) : Rat) = 0 from rfl] at hI hC
  obtain ⟨s, x, d, rfl, -⟩ := hv
  refine Go.Ev.Fn.intro (fn := Tryz.f49) (body := (Tryz.f49).body.get!) (by kernel_rfl) (by kernel_rfl) (by kernel_rfl) (fun _ => rfl) (Nat.le_of_ble_eq_true (by kernel_rfl)) ?_; unfold Tryz.f49; simp only [Option.get!_some]
  repeat (first | (simp only [go_sem, Nat.reduceEqDiff, Nat.reduceAdd, Nat.reduceSub, Nat.reduceMul, Nat.reduceLeDiff, Nat.reduceLT, reduceIte, reduceCtorEq, Nat.succ_ne_zero, elemsC, Int.reduceToNat, Nat.reducePow, cmpR_gt]) | (simp (disch := (first | omega | (simp only [AL, List.length_map]; omega))) only [AR, AL, ifT, ifF, take_all, List.length_cons, List.length_nil, Int.reduceToNat, Int.reducePow, Nat.reducePow, cmpR_gt]) | (refine wk_intro (by kernel_rfl) ?_) | (refine vp_draw (id := 1) (l := []) (by kernel_rfl) ?_) | (refine vf_of (by first | exact hI | exact hC) ?_))
end
end Go.Proofs.YtecjelnpmcnbaaaGreat
namespace Go.Proofs.YtecjelnpmcnbaaaGreat
open Go.Ev
end Go.Proofs.YtecjelnpmcnbaaaGreat
namespace Go.Proofs.YtecjelnpmcnbaaaGreat
open Go.Ev
end Go.Proofs.YtecjelnpmcnbaaaGreat
namespace Go.Proofs.YtecjelnpmcnbaaaGreat
open Go.Ev
abbrev dB (n : Int) : SV := distV 7 n 3 false [] [] false [] []
theorem dB_in {n : Int} (h : 1 ≤ n ∧ n ≤ 256) : Go.Ev.Fn CX 54 [dB n] (.bool true) := by
  refine Go.Ev.Fn.intro (fn := Tryz.f54) (body := (Tryz.f54).body.get!) (by kernel_rfl) (by kernel_rfl) (by kernel_rfl) (fun _ => rfl) (Nat.le_of_ble_eq_true (by kernel_rfl)) ?_; unfold Tryz.f54; simp only [Option.get!_some]
  repeat (first | (simp only [go_sem, Nat.reduceEqDiff, Nat.reduceAdd, Nat.reduceSub, Nat.reduceMul, Nat.reduceLeDiff, Nat.reduceLT, reduceIte, reduceCtorEq, Nat.succ_ne_zero, elemsC, Int.reduceToNat, Nat.reducePow]) | (simp (disch := (first | omega | (simp only [AL, List.length_map]; omega))) only [AR, AL, ifT, ifF, take_all, List.length_cons, List.length_nil, Int.reduceToNat, Int.reducePow, Nat.reducePow]) | (refine wk_intro (by kernel_rfl) ?_))
theorem dB_great {n : Int} (h : 1 ≤ n ∧ n ≤ 256) : Go.Ev.Fn CX 55 [dB n] (.bool false) := by
  by_cases g : 3 > n
  · have x : (if (3 : Int) > n then (3 : Int) else n) = 3 := if_pos g
    refine Go.Ev.Fn.intro (fn := Tryz.f55) (body := (Tryz.f55).body.get!) (by kernel_rfl) (by kernel_rfl) (by kernel_rfl) (fun _ => rfl) (Nat.le_of_ble_eq_true (by kernel_rfl)) ?_; unfold Tryz.f55; simp only [Option.get!_some]
    repeat (first | (simp only [go_sem, Nat.reduceEqDiff, Nat.reduceAdd, Nat.reduceSub, Nat.reduceMul, Nat.reduceLeDiff, Nat.reduceLT, reduceIte, reduceCtorEq, Nat.succ_ne_zero, elemsC, Int.reduceToNat, Nat.reducePow, x]) | (simp (disch := (first | omega | (simp only [AL, List.length_map]; omega))) only [AR, AL, ifT, ifF, take_all, List.length_cons, List.length_nil, Int.reduceToNat, Int.reducePow, Nat.reducePow, x]) | (refine wk_intro (by kernel_rfl) ?_))
  · have x : (if (3 : Int) > n then (3 : Int) else n) = n := if_neg g
    refine Go.Ev.Fn.intro (fn := Tryz.f55) (body := (Tryz.f55).body.get!) (by kernel_rfl) (by kernel_rfl) (by kernel_rfl) (fun _ => rfl) (Nat.le_of_ble_eq_true (by kernel_rfl)) ?_; unfold Tryz.f55; simp only [Option.get!_some]
    repeat (first | (simp only [go_sem, Nat.reduceEqDiff, Nat.reduceAdd, Nat.reduceSub, Nat.reduceMul, Nat.reduceLeDiff, Nat.reduceLT, reduceIte, reduceCtorEq, Nat.succ_ne_zero, elemsC, Int.reduceToNat, Nat.reducePow, x]) | (simp (disch := (first | omega | (simp only [AL, List.length_map]; omega))) only [AR, AL, ifT, ifF, take_all, List.length_cons, List.length_nil, Int.reduceToNat, Int.reducePow, Nat.reducePow, x]) | (refine wk_intro (by kernel_rfl) ?_))
theorem dB_Check {n : Int} (h : 1 ≤ n ∧ n ≤ 256) : Go.Ev.Fn CX 20 [dB n] (.int .i64 0) := by
  have d1 := dB_in h
  have d2 := dB_great h
  refine Go.Ev.Fn.intro (fn := Tryz.f20) (body := (Tryz.f20).body.get!) (by kernel_rfl) (by kernel_rfl) (by kernel_rfl) (fun _ => rfl) (Nat.le_of_ble_eq_true (by kernel_rfl)) ?_; unfold Tryz.f20; simp only [Option.get!_some]
  repeat (first | (simp only [go_sem, Nat.reduceEqDiff, Nat.reduceAdd, Nat.reduceSub, Nat.reduceMul, Nat.reduceLeDiff, Nat.reduceLT, reduceIte, reduceCtorEq, Nat.succ_ne_zero, elemsC, Int.reduceToNat, Nat.reducePow, Bool.not_true]) | (simp (disch := (first | omega | (simp only [AL, List.length_map]; omega))) only [AR, AL, ifT, ifF, take_all, List.length_cons, List.length_nil, Int.reduceToNat, Int.reducePow, Nat.reducePow, Bool.not_true]) | (refine wk_intro (by kernel_rfl) ?_) | (refine vf_of (by first | exact d1 | exact d2) ?_))
theorem dB_Counts (n : Int) : Go.Ev.Fn CX 21 [dB n] (.bool false) := by
  refine Go.Ev.Fn.intro (fn := Tryz.f21) (body := (Tryz.f21).body.get!) (by kernel_rfl) (by kernel_rfl) (by kernel_rfl) (fun _ => rfl) (Nat.le_of_ble_eq_true (by kernel_rfl)) ?_; unfold Tryz.f21; simp only [Option.get!_some]
  repeat (first | (simp only [go_sem, Nat.reduceEqDiff, Nat.reduceAdd, Nat.reduceSub, Nat.reduceMul, Nat.reduceLeDiff, Nat.reduceLT, reduceIte, reduceCtorEq, Nat.succ_ne_zero, elemsC, Int.reduceToNat, Nat.reducePow]) | (simp (disch := (first | omega | (simp only [AL, List.length_map]; omega))) only [AR, AL, ifT, ifF, take_all, List.length_cons, List.length_nil, Int.reduceToNat, Int.reducePow, Nat.reducePow]) | (refine wk_intro (by kernel_rfl) ?_))
theorem dB_ref {n : Int} (h : 1 ≤ n ∧ n ≤ 256) : Go.Ev.Fn CX 30 [dB n] (.int .i64 0) := by
  have d1 : Go.Ev.Fn CX 68 [dB n] (.bool true) := by
    refine Go.Ev.Fn.intro (fn := Tryz.f68) (body := (Tryz.f68).body.get!) (by kernel_rfl) (by kernel_rfl) (by kernel_rfl) (fun _ => rfl) (Nat.le_of_ble_eq_true (by kernel_rfl)) ?_; unfold Tryz.f68; simp only [Option.get!_some]
    repeat (first | (simp only [go_sem, Nat.reduceEqDiff, Nat.reduceAdd, Nat.reduceSub, Nat.reduceMul, Nat.reduceLeDiff, Nat.reduceLT, reduceIte, reduceCtorEq, Nat.succ_ne_zero, elemsC, Int.reduceToNat, Nat.reducePow]) | (simp (disch := (first | omega | (simp only [AL, List.length_map]; omega))) only [AR, AL, ifT, ifF, take_all, List.length_cons, List.length_nil, Int.reduceToNat, Int.reducePow, Nat.reducePow]) | (refine wk_intro (by kernel_rfl) ?_) | (refine vp_draw (id := 15) (l := []) (by kernel_rfl) ?_))
  refine Go.Ev.Fn.intro (fn := Tryz.f30) (body := (Tryz.f30).body.get!) (by kernel_rfl) (by kernel_rfl) (by kernel_rfl) (fun _ => rfl) (Nat.le_of_ble_eq_true (by kernel_rfl)) ?_; unfold Tryz.f30; simp only [Option.get!_some]
  repeat (first | (simp only [go_sem, Nat.reduceEqDiff, Nat.reduceAdd, Nat.reduceSub, Nat.reduceMul, Nat.reduceLeDiff, Nat.reduceLT, reduceIte, reduceCtorEq, Nat.succ_ne_zero, elemsC, Int.reduceToNat, Nat.reducePow, Bool.not_true]) | (simp (disch := (first | omega | (simp only [AL, List.length_map]; omega))) only [AR, AL, ifT, ifF, take_all, List.length_cons, List.length_nil, Int.reduceToNat, Int.reducePow, Nat.reducePow, Bool.not_true]) | (refine wk_intro (by kernel_rfl) ?_) | (refine vp_draw (id := 17) (l := []) (by kernel_rfl) ?_) | (refine vf_of (by first | exact d1) ?_))
theorem one_q : szR 1 1 := ⟨lim_len_lt (by decide +kernel), lim_len_lt (by decide +kernel)⟩
theorem dist_one1 : Go.Ev.Fn CX 154 [] (ballR 1 1) := by
  have i1 := rat_Int 1 (by omega)
  have o := ball_Of (RatA_rv (int_szR (n := 1) (by omega))) (by omega)
  rw [show ((1 : Int) : Rat) = 1 from rfl] at i1 o
  refine Go.Ev.Fn.intro (fn := Tryz.f154) (body := (Tryz.f154).body.get!) (by kernel_rfl) (by kernel_rfl) (by kernel_rfl) (fun _ => rfl) (Nat.le_of_ble_eq_true (by kernel_rfl)) ?_; unfold Tryz.f154; simp only [Option.get!_some]
  repeat (first | (simp only [go_sem, Nat.reduceEqDiff, Nat.reduceAdd, Nat.reduceSub, Nat.reduceMul, Nat.reduceLeDiff, Nat.reduceLT, reduceIte, reduceCtorEq, Nat.succ_ne_zero, elemsC, Int.reduceToNat, Nat.reducePow]) | (simp (disch := (first | omega | (simp only [AL, List.length_map]; omega))) only [AR, AL, ifT, ifF, take_all, List.length_cons, List.length_nil, Int.reduceToNat, Int.reducePow, Nat.reducePow]) | (refine wk_intro (by kernel_rfl) ?_) | (refine vf_of (by first | exact i1 | exact o) ?_))
section
variable {n p : Int} {x l h : Rat} {v : SV} {L : Nat}
theorem chance_beta (hx : RatA v x L) (hL1 : 1 ≤ L) (hL : L ≤ 80) (hx0 : 0 < x) (hx1 : x < 1) (f : Go.Ev.Fn CX 156 [.int .i64 n, .int .i64 3, v, .int .i64 p] (.tup [ballR l h, .bool true])) :
    Go.Ev.Fn CX 109 [dB n, v, .int .i64 p] (.tup [ballR l h, .bool true]) := by
  have bl := dist_below hx hL1 (by omega) 0 (by omega)
  have ab := dist_above hx hL1 (by omega) 0 (by omega)
  have bl1 := dist_below hx hL1 (by omega) 1 (by omega)
  rw [show ((0 : Int) : Rat) = 0 from rfl] at bl ab
  rw [show ((1 : Int) : Rat) = 1 from rfl] at bl1
  rw [decide_eq_false (by grind)] at bl
  rw [decide_eq_true hx0] at ab
  rw [decide_eq_true hx1] at bl1
  clear hx0 hx1
  obtain ⟨s, nn, dd, rfl, -⟩ := hx
  refine Go.Ev.Fn.intro (fn := Tryz.f109) (body := (Tryz.f109).body.get!) (by kernel_rfl) (by kernel_rfl) (by kernel_rfl) (fun _ => rfl) (Nat.le_of_ble_eq_true (by kernel_rfl)) ?_; unfold Tryz.f109; simp only [Option.get!_some]
  repeat (first | (simp only [go_sem, Nat.reduceEqDiff, Nat.reduceAdd, Nat.reduceSub, Nat.reduceMul, Nat.reduceLeDiff, Nat.reduceLT, reduceIte, reduceCtorEq, Nat.succ_ne_zero, elemsC, Int.reduceToNat, Nat.reducePow, Bool.not_true]) | (simp (disch := (first | omega | (simp only [AL, List.length_map]; omega))) only [AR, AL, ifT, ifF, take_all, List.length_cons, List.length_nil, Int.reduceToNat, Int.reducePow, Nat.reducePow, Bool.not_true]) | (refine wk_intro (by kernel_rfl) ?_) | (refine vp_draw (id := 3) (l := []) (by kernel_rfl) ?_) | (refine vp_draw (id := 11) (l := []) (by kernel_rfl) ?_) | (refine vp_draw (id := 13) (l := []) (by kernel_rfl) ?_) | (refine vp_draw (id := 15) (l := []) (by kernel_rfl) ?_) | (refine vp_draw (id := 17) (l := []) (by kernel_rfl) ?_) | (refine vp_draw (id := 18) (l := []) (by kernel_rfl) ?_) | (refine vp_draw (id := 24) (l := []) (by kernel_rfl) ?_) | (refine vp_draw (id := 26) (l := []) (by kernel_rfl) ?_) | (refine vf_of (by first | exact bl | exact ab | exact bl1 | exact f) ?_))
theorem chance_beta0 : Go.Ev.Fn CX 109 [dB n, rv 0, .int .i64 p] (.tup [ballR 0 0, .bool true]) := by
  have hx : RatA (rv 0) 0 1 := RatA_rv (szR_zero (by omega))
  have bl := dist_below hx (by omega) (by omega) 0 (by omega)
  have ab := dist_above hx (by omega) (by omega) 0 (by omega)
  have i0 := rat_Int 0 (by omega)
  have o := ball_Of hx (by omega)
  rw [show ((0 : Int) : Rat) = 0 from rfl] at bl ab i0
  rw [decide_eq_false (by decide)] at bl ab
  refine Go.Ev.Fn.intro (fn := Tryz.f109) (body := (Tryz.f109).body.get!) (by kernel_rfl) (by kernel_rfl) (by kernel_rfl) (fun _ => rfl) (Nat.le_of_ble_eq_true (by kernel_rfl)) ?_; unfold Tryz.f109; simp only [Option.get!_some]
  repeat (first | (simp only [go_sem, Nat.reduceEqDiff, Nat.reduceAdd, Nat.reduceSub, Nat.reduceMul, Nat.reduceLeDiff, Nat.reduceLT, reduceIte, reduceCtorEq, Nat.succ_ne_zero, elemsC, Int.reduceToNat, Nat.reducePow, Bool.not_false]) | (simp (disch := (first | omega | (simp only [AL, List.length_map]; omega))) only [AR, AL, ifT, ifF, take_all, List.length_cons, List.length_nil, Int.reduceToNat, Int.reducePow, Nat.reducePow, Bool.not_false]) | (refine wk_intro (by kernel_rfl) ?_) | (refine vp_draw (id := 3) (l := []) (by kernel_rfl) ?_) | (refine vp_draw (id := 11) (l := []) (by kernel_rfl) ?_) | (refine vp_draw (id := 13) (l := []) (by kernel_rfl) ?_) | (refine vp_draw (id := 15) (l := []) (by kernel_rfl) ?_) | (refine vp_draw (id := 17) (l := []) (by kernel_rfl) ?_) | (refine vp_draw (id := 18) (l := []) (by kernel_rfl) ?_) | (refine vp_draw (id := 24) (l := []) (by kernel_rfl) ?_) | (refine vp_draw (id := 26) (l := []) (by kernel_rfl) ?_) | (refine vf_of (by first | exact bl | exact ab | exact i0 | exact o) ?_))
theorem chance_beta1 : Go.Ev.Fn CX 109 [dB n, rv 1, .int .i64 p] (.tup [ballR 1 1, .bool true]) := by
  have hx : RatA (rv 1) 1 1 := RatA_rv one_q
  have bl := dist_below hx (by omega) (by omega) 0 (by omega)
  have ab := dist_above hx (by omega) (by omega) 0 (by omega)
  have bl1 := dist_below hx (by omega) (by omega) 1 (by omega)
  have o := dist_one1
  rw [show ((0 : Int) : Rat) = 0 from rfl] at bl ab
  rw [show ((1 : Int) : Rat) = 1 from rfl] at bl1
  rw [decide_eq_false (by decide)] at bl bl1
  rw [decide_eq_true (by decide)] at ab
  refine Go.Ev.Fn.intro (fn := Tryz.f109) (body := (Tryz.f109).body.get!) (by kernel_rfl) (by kernel_rfl) (by kernel_rfl) (fun _ => rfl) (Nat.le_of_ble_eq_true (by kernel_rfl)) ?_; unfold Tryz.f109; simp only [Option.get!_some]
  repeat (first | (simp only [go_sem, Nat.reduceEqDiff, Nat.reduceAdd, Nat.reduceSub, Nat.reduceMul, Nat.reduceLeDiff, Nat.reduceLT, reduceIte, reduceCtorEq, Nat.succ_ne_zero, elemsC, Int.reduceToNat, Nat.reducePow, Bool.not_true, Bool.not_false]) | (simp (disch := (first | omega | (simp only [AL, List.length_map]; omega))) only [AR, AL, ifT, ifF, take_all, List.length_cons, List.length_nil, Int.reduceToNat, Int.reducePow, Nat.reducePow, Bool.not_true, Bool.not_false]) | (refine wk_intro (by kernel_rfl) ?_) | (refine vp_draw (id := 3) (l := []) (by kernel_rfl) ?_) | (refine vp_draw (id := 11) (l := []) (by kernel_rfl) ?_) | (refine vp_draw (id := 13) (l := []) (by kernel_rfl) ?_) | (refine vp_draw (id := 15) (l := []) (by kernel_rfl) ?_) | (refine vp_draw (id := 17) (l := []) (by kernel_rfl) ?_) | (refine vp_draw (id := 18) (l := []) (by kernel_rfl) ?_) | (refine vp_draw (id := 24) (l := []) (by kernel_rfl) ?_) | (refine vp_draw (id := 26) (l := []) (by kernel_rfl) ?_) | (refine vf_of (by first | exact bl | exact ab | exact bl1 | exact o) ?_))
theorem cdf_beta {P Q : Nat} (hn : 1 ≤ n ∧ n ≤ 256) (hx : RatA v x L) (hP : P ≤ 1000000) (hQ : Q = if P ≤ 200 then P else 200)
    (f : Go.Ev.Fn CX 109 [dB n, v, .int .i64 (Q : Int)] (.tup [ballR l h, .bool true])) :
    Go.Ev.Fn CX 62 [dB n, v, .int .i64 (P : Int)] (.tup [ballR l h, .int .i64 0]) := by
  have c := dB_Check hn
  have x1 : (if (0 : Int) > (P : Int) then (0 : Int) else (P : Int)) = (P : Int) := if_neg (by omega)
  have x2 : (if (200 : Int) < (P : Int) then (200 : Int) else (P : Int)) = (Q : Int) := by
    subst hQ
    by_cases g : P ≤ 200
    · rw [if_neg (by omega), if_pos g]
    · rw [if_pos (by omega), if_neg g]; rfl
  obtain ⟨s, nn, dd, rfl, -⟩ := hx
  refine Go.Ev.Fn.intro (fn := Tryz.f62) (body := (Tryz.f62).body.get!) (by kernel_rfl) (by kernel_rfl) (by kernel_rfl) (fun _ => rfl) (Nat.le_of_ble_eq_true (by kernel_rfl)) ?_; unfold Tryz.f62; simp only [Option.get!_some]
  repeat (first | (simp only [go_sem, Nat.reduceEqDiff, Nat.reduceAdd, Nat.reduceSub, Nat.reduceMul, Nat.reduceLeDiff, Nat.reduceLT, reduceIte, reduceCtorEq, Nat.succ_ne_zero, elemsC, Int.reduceToNat, Nat.reducePow, x1, x2, Bool.not_true]) | (simp (disch := (first | omega | (simp only [AL, List.length_map]; omega))) only [AR, AL, ifT, ifF, take_all, List.length_cons, List.length_nil, Int.reduceToNat, Int.reducePow, Nat.reducePow, x1, x2, Bool.not_true]) | (refine wk_intro (by kernel_rfl) ?_) | (refine vf_of (by first | exact c | exact f) ?_))
end
theorem q_over {v w : SV} {q r : Rat} {L M : Nat} (hv : RatA v q L) (hw : RatA w r M) (hL : 1 ≤ L) (hM : 1 ≤ M) (h : L + M ≤ 100000) : Go.Ev.Fn CX 60 [v, w] (rv (q / r)) := by
  have d := rat_Div hv hw hL hM (by omega)
  obtain ⟨s, n, e, rfl, -⟩ := hv
  obtain ⟨s', n', e', rfl, -⟩ := hw
  refine Go.Ev.Fn.intro (fn := Tryz.f60) (body := (Tryz.f60).body.get!) (by kernel_rfl) (by kernel_rfl) (by kernel_rfl) (fun _ => rfl) (Nat.le_of_ble_eq_true (by kernel_rfl)) ?_; unfold Tryz.f60; simp only [Option.get!_some]
  repeat (first | (simp only [go_sem, Nat.reduceEqDiff, Nat.reduceAdd, Nat.reduceSub, Nat.reduceMul, Nat.reduceLeDiff, Nat.reduceLT, reduceIte, reduceCtorEq, Nat.succ_ne_zero, elemsC, Int.reduceToNat, Nat.reducePow]) | (simp (disch := (first | omega | (simp only [AL, List.length_map]; omega))) only [AR, AL, ifT, ifF, take_all, List.length_cons, List.length_nil, Int.reduceToNat, Int.reducePow, Nat.reducePow]) | (refine wk_intro (by kernel_rfl) ?_) | (refine vf_of (by first | exact d) ?_))
theorem q_bit (P : Nat) (hP : P ≤ 40) : Go.Ev.Fn CX 29 [.int .i64 (P : Int)] (rv (mkRat 1 (2 ^ P))) := by
  have o := nat_Of 1 (by omega)
  have sh := nat_shl (N := 1) (m := P) (by decide) (by omega)
  rw [Nat.one_mul] at sh
  have l2 : (lim (2 ^ P)).length ≤ 2 := by
    have h1 : 2 ^ P ≤ 2 ^ 40 := Nat.pow_le_pow_right (by omega) hP
    exact lim_len_lt (Nat.lt_of_le_of_lt h1 (by decide))
  have r := rat_OfL (s := false) (n := 1) (d := 2 ^ P) (by decide) (by omega)
  rw [show sgn false 1 = 1 from rfl] at r
  generalize 2 ^ P = E at *
  refine Go.Ev.Fn.intro (fn := Tryz.f29) (body := (Tryz.f29).body.get!) (by kernel_rfl) (by kernel_rfl) (by kernel_rfl) (fun _ => rfl) (Nat.le_of_ble_eq_true (by kernel_rfl)) ?_; unfold Tryz.f29; simp only [Option.get!_some]
  repeat (first | (simp only [go_sem, Nat.reduceEqDiff, Nat.reduceAdd, Nat.reduceSub, Nat.reduceMul, Nat.reduceLeDiff, Nat.reduceLT, reduceIte, reduceCtorEq, Nat.succ_ne_zero, elemsC, Int.reduceToNat, Nat.reducePow]) | (simp (disch := (first | omega | (simp only [AL, List.length_map]; omega))) only [AR, AL, ifT, ifF, take_all, List.length_cons, List.length_nil, Int.reduceToNat, Int.reducePow, Nat.reducePow]) | (refine wk_intro (by kernel_rfl) ?_) | (refine vf_of (by first | exact o | exact sh | exact r) ?_))
theorem q_isWide (n : Int) : Go.Ev.Fn CX 24 [dB n] (.bool false) := by
  refine Go.Ev.Fn.intro (fn := Tryz.f24) (body := (Tryz.f24).body.get!) (by kernel_rfl) (by kernel_rfl) (by kernel_rfl) (fun _ => rfl) (Nat.le_of_ble_eq_true (by kernel_rfl)) ?_; unfold Tryz.f24; simp only [Option.get!_some]
  repeat (first | (simp only [go_sem, Nat.reduceEqDiff, Nat.reduceAdd, Nat.reduceSub, Nat.reduceMul, Nat.reduceLeDiff, Nat.reduceLT, reduceIte, reduceCtorEq, Nat.succ_ne_zero, elemsC, Int.reduceToNat, Nat.reducePow]) | (simp (disch := (first | omega | (simp only [AL, List.length_map]; omega))) only [AR, AL, ifT, ifF, take_all, List.length_cons, List.length_nil, Int.reduceToNat, Int.reducePow, Nat.reducePow]) | (refine wk_intro (by kernel_rfl) ?_) | (refine vp_draw (id := 3) (l := []) (by kernel_rfl) ?_) | (refine vp_draw (id := 6) (l := []) (by kernel_rfl) ?_))
theorem q_stretch (n : Int) : Go.Ev.Fn CX 25 [dB n] (.tup [rv 0, rv 1]) := by
  have i0 := rat_Int 0 (by omega)
  have i1 := rat_Int 1 (by omega)
  rw [show ((0 : Int) : Rat) = 0 from rfl] at i0
  rw [show ((1 : Int) : Rat) = 1 from rfl] at i1
  refine Go.Ev.Fn.intro (fn := Tryz.f25) (body := (Tryz.f25).body.get!) (by kernel_rfl) (by kernel_rfl) (by kernel_rfl) (fun _ => rfl) (Nat.le_of_ble_eq_true (by kernel_rfl)) ?_; unfold Tryz.f25; simp only [Option.get!_some]
  repeat (first | (simp only [go_sem, Nat.reduceEqDiff, Nat.reduceAdd, Nat.reduceSub, Nat.reduceMul, Nat.reduceLeDiff, Nat.reduceLT, reduceIte, reduceCtorEq, Nat.succ_ne_zero, elemsC, Int.reduceToNat, Nat.reducePow]) | (simp (disch := (first | omega | (simp only [AL, List.length_map]; omega))) only [AR, AL, ifT, ifF, take_all, List.length_cons, List.length_nil, Int.reduceToNat, Int.reducePow, Nat.reducePow]) | (refine wk_intro (by kernel_rfl) ?_) | (refine vp_draw (id := 3) (l := []) (by kernel_rfl) ?_) | (refine vp_draw (id := 4) (l := []) (by kernel_rfl) ?_) | (refine vp_draw (id := 7) (l := []) (by kernel_rfl) ?_) | (refine vf_of (by first | exact i0 | exact i1) ?_))
def sideR (l h q : Rat) : Int := if h < q then -1 else if q < l then 1 else 0
theorem q_Side {l h q : Rat} {L M : Nat} (z1 : szR l L) (z2 : szR h L) (z3 : szR q M) (hL : 1 ≤ L) (hM : 1 ≤ M) (hLM : L + M ≤ 100000) : Go.Ev.Fn CX 63 [ballR l h, ballR q q] (.int .i64 (sideR l h q)) := by
  have c1 := rat_Cmp (RatA_rv z2) (RatA_rv z3) hL hM (by omega)
  have c2 := rat_Cmp (RatA_rv z1) (RatA_rv z3) hL hM (by omega)
  have e1 := cmpR_lt (q := h) (r := q)
  have e2 := cmpR_gt (q := l) (r := q)
  unfold sideR
  by_cases h1 : h < q
  · rw [if_pos h1]
    rw [decide_eq_true h1] at e1
    refine Go.Ev.Fn.intro (fn := Tryz.f63) (body := (Tryz.f63).body.get!) (by kernel_rfl) (by kernel_rfl) (by kernel_rfl) (fun _ => rfl) (Nat.le_of_ble_eq_true (by kernel_rfl)) ?_; unfold Tryz.f63; simp only [Option.get!_some]
    repeat (first | (simp only [go_sem, Nat.reduceEqDiff, Nat.reduceAdd, Nat.reduceSub, Nat.reduceMul, Nat.reduceLeDiff, Nat.reduceLT, reduceIte, reduceCtorEq, Nat.succ_ne_zero, elemsC, Int.reduceToNat, Nat.reducePow, e1]) | (simp (disch := (first | omega | (simp only [AL, List.length_map]; omega))) only [AR, AL, ifT, ifF, take_all, List.length_cons, List.length_nil, Int.reduceToNat, Int.reducePow, Nat.reducePow, e1]) | (refine wk_intro (by kernel_rfl) ?_) | (refine vf_of (by first | exact c1) ?_))
  · rw [if_neg h1]
    rw [decide_eq_false h1] at e1
    by_cases h2 : q < l
    · rw [if_pos h2]
      rw [decide_eq_true h2] at e2
      refine Go.Ev.Fn.intro (fn := Tryz.f63) (body := (Tryz.f63).body.get!) (by kernel_rfl) (by kernel_rfl) (by kernel_rfl) (fun _ => rfl) (Nat.le_of_ble_eq_true (by kernel_rfl)) ?_; unfold Tryz.f63; simp only [Option.get!_some]
      repeat (first | (simp only [go_sem, Nat.reduceEqDiff, Nat.reduceAdd, Nat.reduceSub, Nat.reduceMul, Nat.reduceLeDiff, Nat.reduceLT, reduceIte, reduceCtorEq, Nat.succ_ne_zero, elemsC, Int.reduceToNat, Nat.reducePow, e1, e2]) | (simp (disch := (first | omega | (simp only [AL, List.length_map]; omega))) only [AR, AL, ifT, ifF, take_all, List.length_cons, List.length_nil, Int.reduceToNat, Int.reducePow, Nat.reducePow, e1, e2]) | (refine wk_intro (by kernel_rfl) ?_) | (refine vf_of (by first | exact c1 | exact c2) ?_))
    · rw [if_neg h2]
      rw [decide_eq_false h2] at e2
      refine Go.Ev.Fn.intro (fn := Tryz.f63) (body := (Tryz.f63).body.get!) (by kernel_rfl) (by kernel_rfl) (by kernel_rfl) (fun _ => rfl) (Nat.le_of_ble_eq_true (by kernel_rfl)) ?_; unfold Tryz.f63; simp only [Option.get!_some]
      repeat (first | (simp only [go_sem, Nat.reduceEqDiff, Nat.reduceAdd, Nat.reduceSub, Nat.reduceMul, Nat.reduceLeDiff, Nat.reduceLT, reduceIte, reduceCtorEq, Nat.succ_ne_zero, elemsC, Int.reduceToNat, Nat.reducePow, e1, e2]) | (simp (disch := (first | omega | (simp only [AL, List.length_map]; omega))) only [AR, AL, ifT, ifF, take_all, List.length_cons, List.length_nil, Int.reduceToNat, Int.reducePow, Nat.reducePow, e1, e2]) | (refine wk_intro (by kernel_rfl) ?_) | (refine vf_of (by first | exact c1 | exact c2) ?_))
end Go.Proofs.YtecjelnpmcnbaaaGreat
namespace Go.Proofs.YtecjelnpmcnbaaaGreat
open Go.Ev
abbrev schC (n : Int) (q lo hi : Rat) : List SV := [.int .i64 7, .int .i64 n, .int .i64 3, .bool false, natV [], natV [], .bool false, natV [], natV [],
  .bool (decide (q.num < 0)), natV (lim q.num.natAbs), natV (lim q.den), .bool (decide (q.num < 0)), natV (lim q.num.natAbs), natV (lim q.den),
  .bool (decide (lo.num < 0)), natV (lim lo.num.natAbs), natV (lim lo.den), .bool (decide (hi.num < 0)), natV (lim hi.num.natAbs), natV (lim hi.den)]
theorem exp_side {s : St} {cs : List SV} {v : SV} : expOf s [.imp cs, .sv v] = [s.obj 1000000 0, none] := rfl
theorem exp_wide {s : St} {cs : List SV} : expOf s [.imp cs] = [s.obj 1000000 0] := rfl
def Told (n : Nat) (q x : Rat) (s : Int) : Prop := (s = -1 ∧ ∃ h, HiS n 3 x h ∧ h < q) ∨ (s = 1 ∧ ∃ l, LoS n 3 x l ∧ q < l) ∨ (s = 0 ∧ Near n 3 q x)
theorem p2_200 {l h : Rat} (g : l ≤ h) (w : (h - l) * p2 200 ≤ 1) : (h - l) * 1267650600228229401496703205376 ≤ 1 := by
  have e : (1267650600228229401496703205376 : Rat) ≤ p2 200 := by decide +kernel
  have m := Rat.mul_le_mul_of_nonneg_left e (show 0 ≤ h - l by grind)
  exact Rat.le_trans m w
theorem side_round {n : Nat} (hn : 1 ≤ n ∧ n ≤ 12) {q x : Rat} (zq : szR q 1) (zx : szR x 3) (h0 : 0 < x) (h1 : x < 1) (P Q : Nat) (hP : P ≤ 256) (hQ : Q = if P ≤ 200 then P else 200) :
    ∃ l h : Rat, Go.Ev.Fn CX 62 [dB n, rv x, .int .i64 (P : Int)] (.tup [ballR l h, .int .i64 0]) ∧ Go.Ev.Fn CX 63 [ballR l h, ballR q q] (.int .i64 (sideR l h q)) ∧ l ≤ h ∧ (h - l) * p2 Q ≤ 1 ∧ LoS n 3 x l ∧ HiS n 3 x h := by
  have hQ2 : Q ≤ 200 := by rw [hQ]; split <;> omega
  obtain ⟨l, h, f, z1, z2, g, w, A, B⟩ := incb_ballW (a := n) (b := 3) (p := Q) (RatA_rv zx) (by omega) (by omega) (by omega) (by omega) (by omega) (by omega) hQ2 h0 h1
  have c := cdf_beta (n := n) (P := P) (Q := Q) (by omega) (RatA_rv zx) (by omega) hQ (chance_beta (RatA_rv zx) (by omega) (by omega) h0 h1 f)
  exact ⟨l, h, c, q_Side z1 z2 zq (by omega) (by omega) (by omega), g, w, A, B⟩
set_option maxHeartbeats 1000000 in
theorem side_fn {n : Nat} (hn : 1 ≤ n ∧ n ≤ 12) {q lo hi x : Rat} (zq : szR q 1) (zx : szR x 3) (h0 : 0 < x) (h1 : x < 1) :
    ∃ r exps, (∃ s : Int, Told n q x s ∧ r = .int .i64 s ∧ exps = [some (schC n q lo hi), none]) ∧ FnI CX 27 [.imp (schC n q lo hi), .sv (rv x)] r exps := by
  have hr := side_round hn zq zx h0 h1
  refine FnI_of (fn := Tryz.f27) (body := (Tryz.f27).body.get!) (by kernel_rfl) (by kernel_rfl) (by kernel_rfl) (fun _ => rfl) (Nat.le_of_ble_eq_true (by kernel_rfl)) ?_
  unfold Tryz.f27
  simp only [Option.get!_some, exp_side]
  repeat (first | (simp only [go_sem, Nat.reduceEqDiff, Nat.reduceAdd, Nat.reduceSub, Nat.reduceMul, Nat.reduceLeDiff, Nat.reduceLT, reduceIte, reduceCtorEq, Nat.succ_ne_zero, elemsC, Int.reduceToNat, Nat.reducePow, N0]) | (simp (disch := (first | omega | (simp only [AL, List.length_map]; omega))) only [AR, AL, ifT, ifF, take_all, List.length_cons, List.length_nil, Int.reduceToNat, Int.reducePow, Nat.reducePow, N0]) | (refine wk_intro (by kernel_rfl) ?_))
  refine vp_loop_inv (fun s => s.tmp 0 = .ptr 1000000 0 0 ∧ s.obj 1000000 0 = some (schC n q lo hi) ∧ s.tmp 3 = .ptr 3 0 0 ∧ s.obj 3 0 = some [.bool (decide (x.num < 0)), natV (lim x.num.natAbs), natV (lim x.den)] ∧
      ∃ P : Nat, s.tmp 5 = .sv (.int .i64 (P : Int)) ∧ (P = 32 ∨ P = 64 ∨ P = 128 ∨ P = 256))
    (fun s => match s.tmp 5 with | .sv (.int _ i) => 300 - i.toNat | _ => 0) ?_ ?_
  · exact ⟨rfl, rfl, rfl, rfl, 32, rfl, .inl rfl⟩
  rintro s ⟨i0, iO, i3, oX, P, i5, hP⟩
  obtain ⟨l, h, c, sd, g, w, A, B⟩ := hr P _ (by omega) rfl
  clear hr
  unfold sideR at sd
  by_cases k1 : h < q
  · rw [if_pos k1] at sd
    repeat (first | (simp only [go_sem, Nat.reduceEqDiff, Nat.reduceAdd, Nat.reduceSub, Nat.reduceMul, Nat.reduceLeDiff, Nat.reduceLT, reduceIte, reduceCtorEq, Nat.succ_ne_zero, elemsC, Int.reduceToNat, Nat.reducePow, i0, iO, i3, oX, i5]) | (simp (disch := (first | omega | (simp only [AL, List.length_map]; omega))) only [AR, AL, ifT, ifF, take_all, List.length_cons, List.length_nil, Int.reduceToNat, Int.reducePow, Nat.reducePow, i0, iO, i3, oX, i5]) | (refine wk_intro (by kernel_rfl) ?_) | (refine vp_draw (l := []) (by kernel_rfl) ?_) | (refine vf_of (by first | exact c | exact sd) ?_))
    exact ⟨_, _, ⟨-1, .inl ⟨rfl, h, B, k1⟩, rfl, rfl⟩, rfl, rfl⟩
  · rw [if_neg k1] at sd
    by_cases k2 : q < l
    · rw [if_pos k2] at sd
      repeat (first | (simp only [go_sem, Nat.reduceEqDiff, Nat.reduceAdd, Nat.reduceSub, Nat.reduceMul, Nat.reduceLeDiff, Nat.reduceLT, reduceIte, reduceCtorEq, Nat.succ_ne_zero, elemsC, Int.reduceToNat, Nat.reducePow, i0, iO, i3, oX, i5]) | (simp (disch := (first | omega | (simp only [AL, List.length_map]; omega))) only [AR, AL, ifT, ifF, take_all, List.length_cons, List.length_nil, Int.reduceToNat, Int.reducePow, Nat.reducePow, i0, iO, i3, oX, i5]) | (refine wk_intro (by kernel_rfl) ?_) | (refine vp_draw (l := []) (by kernel_rfl) ?_) | (refine vf_of (by first | exact c | exact sd) ?_))
      exact ⟨_, _, ⟨1, .inr (.inl ⟨rfl, l, A, k2⟩), rfl, rfl⟩, rfl, rfl⟩
    · rw [if_neg k2] at sd
      by_cases hP2 : P = 256
      · subst hP2
        have w2 := p2_200 g w
        repeat (first | (simp only [go_sem, Nat.reduceEqDiff, Nat.reduceAdd, Nat.reduceSub, Nat.reduceMul, Nat.reduceLeDiff, Nat.reduceLT, reduceIte, reduceCtorEq, Nat.succ_ne_zero, elemsC, Int.reduceToNat, Nat.reducePow, i0, iO, i3, oX, i5]) | (simp (disch := (first | omega | (simp only [AL, List.length_map]; omega))) only [AR, AL, ifT, ifF, take_all, List.length_cons, List.length_nil, Int.reduceToNat, Int.reducePow, Nat.reducePow, i0, iO, i3, oX, i5]) | (refine wk_intro (by kernel_rfl) ?_) | (refine vp_draw (l := []) (by kernel_rfl) ?_) | (refine vf_of (by first | exact c | exact sd) ?_))
        exact ⟨_, _, ⟨0, .inr (.inr ⟨rfl, l, h, A, B, by grind, by grind, w2⟩), rfl, rfl⟩, rfl, rfl⟩
      · have hP3 : P < 200 := by omega
        clear A B w g k1 k2
        repeat (first | (simp only [go_sem, Nat.reduceEqDiff, Nat.reduceAdd, Nat.reduceSub, Nat.reduceMul, Nat.reduceLeDiff, Nat.reduceLT, reduceIte, reduceCtorEq, Nat.succ_ne_zero, elemsC, Int.reduceToNat, Nat.reducePow, i0, iO, i3, oX, i5]) | (simp (disch := (first | omega | (simp only [AL, List.length_map]; omega))) only [AR, AL, ifT, ifF, take_all, List.length_cons, List.length_nil, Int.reduceToNat, Int.reducePow, Nat.reducePow, i0, iO, i3, oX, i5]) | (refine wk_intro (by kernel_rfl) ?_) | (refine vp_draw (l := []) (by kernel_rfl) ?_) | (refine vf_of (by first | exact c | exact sd) ?_))
        exact ⟨⟨P * 2, rfl, by omega⟩, by omega⟩
theorem side_end {n : Nat} (hn : 1 ≤ n ∧ n ≤ 12) {q lo hi x : Rat} {t : Int} (zq : szR q 1) (hx : (x = 0 ∧ 0 < q ∧ t = -1) ∨ (x = 1 ∧ q < 1 ∧ t = 1)) :
    ∃ r exps, (r = .int .i64 t ∧ exps = [some (schC n q lo hi), none]) ∧ FnI CX 27 [.imp (schC n q lo hi), .sv (rv x)] r exps := by
  have key : ∃ l h : Rat, Go.Ev.Fn CX 62 [dB n, rv x, .int .i64 32] (.tup [ballR l h, .int .i64 0]) ∧ Go.Ev.Fn CX 63 [ballR l h, ballR q q] (.int .i64 t) := by
    rcases hx with ⟨rfl, hq, rfl⟩ | ⟨rfl, hq, rfl⟩
    · have z0 : szR 0 1 := szR_zero (by omega)
      have s := q_Side z0 z0 zq (by omega) (by omega) (by omega)
      unfold sideR at s
      rw [if_pos hq] at s
      exact ⟨0, 0, cdf_beta (P := 32) (Q := 32) (by omega) (RatA_rv z0) (by omega) rfl chance_beta0, s⟩
    · have s := q_Side one_q one_q zq (by omega) (by omega) (by omega)
      unfold sideR at s
      rw [if_neg (by grind), if_pos hq] at s
      exact ⟨1, 1, cdf_beta (P := 32) (Q := 32) (by omega) (RatA_rv one_q) (by omega) rfl chance_beta1, s⟩
  obtain ⟨l, h, c, sd⟩ := key
  have ht : t = -1 ∨ t = 1 := by rcases hx with ⟨-, -, h⟩ | ⟨-, -, h⟩ <;> simp [h]
  clear hx
  refine FnI_of (fn := Tryz.f27) (body := (Tryz.f27).body.get!) (by kernel_rfl) (by kernel_rfl) (by kernel_rfl) (fun _ => rfl) (Nat.le_of_ble_eq_true (by kernel_rfl)) ?_
  unfold Tryz.f27
  simp only [Option.get!_some, exp_side]
  repeat (first | (simp only [go_sem, Nat.reduceEqDiff, Nat.reduceAdd, Nat.reduceSub, Nat.reduceMul, Nat.reduceLeDiff, Nat.reduceLT, reduceIte, reduceCtorEq, Nat.succ_ne_zero, elemsC, Int.reduceToNat, Nat.reducePow, N0]) | (simp (disch := (first | omega | (simp only [AL, List.length_map]; omega))) only [AR, AL, ifT, ifF, take_all, List.length_cons, List.length_nil, Int.reduceToNat, Int.reducePow, Nat.reducePow, N0]) | (refine wk_intro (by kernel_rfl) ?_))
  refine vp_loop_inv (fun s => s.tmp 0 = .ptr 1000000 0 0 ∧ s.obj 1000000 0 = some (schC n q lo hi) ∧ s.tmp 3 = .ptr 3 0 0 ∧ s.obj 3 0 = some [.bool (decide (x.num < 0)), natV (lim x.num.natAbs), natV (lim x.den)] ∧ s.tmp 5 = .sv (.int .i64 32))
    (fun s => 0) ?_ ?_
  · exact ⟨rfl, rfl, rfl, rfl, rfl⟩
  rintro s ⟨i0, iO, i3, oX, i5⟩
  rcases ht with rfl | rfl
  · repeat (first | (simp only [go_sem, Nat.reduceEqDiff, Nat.reduceAdd, Nat.reduceSub, Nat.reduceMul, Nat.reduceLeDiff, Nat.reduceLT, reduceIte, reduceCtorEq, Nat.succ_ne_zero, elemsC, Int.reduceToNat, Nat.reducePow, i0, iO, i3, oX, i5]) | (simp (disch := (first | omega | (simp only [AL, List.length_map]; omega))) only [AR, AL, ifT, ifF, take_all, List.length_cons, List.length_nil, Int.reduceToNat, Int.reducePow, Nat.reducePow, i0, iO, i3, oX, i5]) | (refine wk_intro (by kernel_rfl) ?_) | (refine vp_draw (l := []) (by kernel_rfl) ?_))
    repeat (first | (simp only [go_sem, Nat.reduceEqDiff, Nat.reduceAdd, Nat.reduceSub, Nat.reduceMul, Nat.reduceLeDiff, Nat.reduceLT, reduceIte, reduceCtorEq, Nat.succ_ne_zero, elemsC, Int.reduceToNat, Nat.reducePow, i0, iO, i3, oX, i5]) | (simp (disch := (first | omega | (simp only [AL, List.length_map]; omega))) only [AR, AL, ifT, ifF, take_all, List.length_cons, List.length_nil, Int.reduceToNat, Int.reducePow, Nat.reducePow, i0, iO, i3, oX, i5]) | (refine wk_intro (by kernel_rfl) ?_) | (refine vp_draw (l := []) (by kernel_rfl) ?_) | (refine vf_of (by first | exact c | exact sd) ?_))
    exact ⟨_, _, ⟨rfl, rfl⟩, rfl, rfl⟩
  · repeat (first | (simp only [go_sem, Nat.reduceEqDiff, Nat.reduceAdd, Nat.reduceSub, Nat.reduceMul, Nat.reduceLeDiff, Nat.reduceLT, reduceIte, reduceCtorEq, Nat.succ_ne_zero, elemsC, Int.reduceToNat, Nat.reducePow, i0, iO, i3, oX, i5]) | (simp (disch := (first | omega | (simp only [AL, List.length_map]; omega))) only [AR, AL, ifT, ifF, take_all, List.length_cons, List.length_nil, Int.reduceToNat, Int.reducePow, Nat.reducePow, i0, iO, i3, oX, i5]) | (refine wk_intro (by kernel_rfl) ?_) | (refine vp_draw (l := []) (by kernel_rfl) ?_))
    repeat (first | (simp only [go_sem, Nat.reduceEqDiff, Nat.reduceAdd, Nat.reduceSub, Nat.reduceMul, Nat.reduceLeDiff, Nat.reduceLT, reduceIte, reduceCtorEq, Nat.succ_ne_zero, elemsC, Int.reduceToNat, Nat.reducePow, i0, iO, i3, oX, i5]) | (simp (disch := (first | omega | (simp only [AL, List.length_map]; omega))) only [AR, AL, ifT, ifF, take_all, List.length_cons, List.length_nil, Int.reduceToNat, Int.reducePow, Nat.reducePow, i0, iO, i3, oX, i5]) | (refine wk_intro (by kernel_rfl) ?_) | (refine vp_draw (l := []) (by kernel_rfl) ?_) | (refine vf_of (by first | exact c | exact sd) ?_))
    exact ⟨_, _, ⟨rfl, rfl⟩, rfl, rfl⟩
theorem wide_fn {n : Int} {q lo hi : Rat} (z1 : szR lo 3) (z2 : szR hi 3) :
    ∃ r exps, (r = rv (hi - lo) ∧ exps = [some (schC n q lo hi)]) ∧ FnI CX 64 [.imp (schC n q lo hi)] r exps := by
  have sb := rat_Sub (RatA_rv z2) (RatA_rv z1) (by omega) (by omega) (by omega)
  generalize hi - lo = d at *
  refine FnI_of (fn := Tryz.f64) (body := (Tryz.f64).body.get!) (by kernel_rfl) (by kernel_rfl) (by kernel_rfl) (fun _ => rfl) (Nat.le_of_ble_eq_true (by kernel_rfl)) ?_
  unfold Tryz.f64
  simp only [Option.get!_some, exp_wide]
  repeat (first | (simp only [go_sem, Nat.reduceEqDiff, Nat.reduceAdd, Nat.reduceSub, Nat.reduceMul, Nat.reduceLeDiff, Nat.reduceLT, reduceIte, reduceCtorEq, Nat.succ_ne_zero, elemsC, Int.reduceToNat, Nat.reducePow, N0]) | (simp (disch := (first | omega | (simp only [AL, List.length_map]; omega))) only [AR, AL, ifT, ifF, take_all, List.length_cons, List.length_nil, Int.reduceToNat, Int.reducePow, Nat.reducePow, N0]) | (refine wk_intro (by kernel_rfl) ?_) | (refine vp_draw (l := []) (by kernel_rfl) ?_) | (refine vf_of (by first | exact sb) ?_))
  exact ⟨_, _, ⟨rfl, rfl⟩, rfl, rfl⟩
set_option maxHeartbeats 1000000 in
theorem takes_in {n : Nat} (hn : 1 ≤ n ∧ n ≤ 12) {q lo hi x : Rat} (zq : szR q 1) (zx : szR x 3) (zl : szR lo 3) (zh : szR hi 3) (h0 : 0 < x) (h1 : x < 1) (hl : lo < x) (hh : x < hi) :
    ∃ r exps, (∃ (b : Bool) (lo' hi' : Rat), r = .bool b ∧ exps = [some (schC n q lo' hi'), none] ∧
        ((b = true ∧ lo' = x ∧ hi' = hi ∧ ∃ h, HiS n 3 x h ∧ h < q) ∨ (b = true ∧ lo' = lo ∧ hi' = x ∧ ∃ l, LoS n 3 x l ∧ q < l) ∨ (b = false ∧ lo' = lo ∧ hi' = hi ∧ Near n 3 q x))) ∧
      FnI CX 65 [.imp (schC n q lo hi), .sv (rv x)] r exps := by
  obtain ⟨r, exps, ⟨s, ht, rfl, rfl⟩, hf⟩ := side_fn (lo := lo) (hi := hi) hn zq zx h0 h1
  have c1 := rat_Cmp (RatA_rv zx) (RatA_rv zl) (by omega) (by omega) (by omega)
  have c2 := rat_Cmp (RatA_rv zx) (RatA_rv zh) (by omega) (by omega) (by omega)
  have e1 := cmpR_le (q := x) (r := lo)
  have e2 := cmpR_ge (q := x) (r := hi)
  rw [decide_eq_false (show ¬ x ≤ lo by grind)] at e1
  rw [decide_eq_false (show ¬ hi ≤ x by grind)] at e2
  refine FnI_of (fn := Tryz.f65) (body := (Tryz.f65).body.get!) (by kernel_rfl) (by kernel_rfl) (by kernel_rfl) (fun _ => rfl) (Nat.le_of_ble_eq_true (by kernel_rfl)) ?_
  unfold Tryz.f65
  simp only [Option.get!_some, exp_side]
  repeat (first | (simp only [go_sem, Nat.reduceEqDiff, Nat.reduceAdd, Nat.reduceSub, Nat.reduceMul, Nat.reduceLeDiff, Nat.reduceLT, reduceIte, reduceCtorEq, Nat.succ_ne_zero, elemsC, Int.reduceToNat, Nat.reducePow, N0, e1, e2]) | (simp (disch := (first | omega | (simp only [AL, List.length_map]; omega))) only [AR, AL, ifT, ifF, take_all, List.length_cons, List.length_nil, Int.reduceToNat, Int.reducePow, Nat.reducePow, N0, e1, e2]) | (refine wk_intro (by kernel_rfl) ?_) | (refine vp_draw (l := []) (by kernel_rfl) ?_) | (refine vf_of (by first | exact c1 | exact c2) ?_))
  refine vi_of hf rfl ?_
  rcases ht with ⟨rfl, ht⟩ | ⟨rfl, ht⟩ | ⟨rfl, ht⟩
  · repeat (first | (simp only [go_sem, Nat.reduceEqDiff, Nat.reduceAdd, Nat.reduceSub, Nat.reduceMul, Nat.reduceLeDiff, Nat.reduceLT, reduceIte, reduceCtorEq, Nat.succ_ne_zero, elemsC, Int.reduceToNat, Nat.reducePow, N0]) | (simp (disch := (first | omega | (simp only [AL, List.length_map]; omega))) only [AR, AL, ifT, ifF, take_all, List.length_cons, List.length_nil, Int.reduceToNat, Int.reducePow, Nat.reducePow, N0]) | (refine wk_intro (by kernel_rfl) ?_) | (refine vp_draw (l := []) (by kernel_rfl) ?_))
    exact ⟨_, _, ⟨true, x, hi, rfl, rfl, .inl ⟨rfl, rfl, rfl, ht⟩⟩, rfl, rfl⟩
  · repeat (first | (simp only [go_sem, Nat.reduceEqDiff, Nat.reduceAdd, Nat.reduceSub, Nat.reduceMul, Nat.reduceLeDiff, Nat.reduceLT, reduceIte, reduceCtorEq, Nat.succ_ne_zero, elemsC, Int.reduceToNat, Nat.reducePow, N0]) | (simp (disch := (first | omega | (simp only [AL, List.length_map]; omega))) only [AR, AL, ifT, ifF, take_all, List.length_cons, List.length_nil, Int.reduceToNat, Int.reducePow, Nat.reducePow, N0]) | (refine wk_intro (by kernel_rfl) ?_) | (refine vp_draw (l := []) (by kernel_rfl) ?_))
    exact ⟨_, _, ⟨true, lo, x, rfl, rfl, .inr (.inl ⟨rfl, rfl, rfl, ht⟩)⟩, rfl, rfl⟩
  · repeat (first | (simp only [go_sem, Nat.reduceEqDiff, Nat.reduceAdd, Nat.reduceSub, Nat.reduceMul, Nat.reduceLeDiff, Nat.reduceLT, reduceIte, reduceCtorEq, Nat.succ_ne_zero, elemsC, Int.reduceToNat, Nat.reducePow, N0]) | (simp (disch := (first | omega | (simp only [AL, List.length_map]; omega))) only [AR, AL, ifT, ifF, take_all, List.length_cons, List.length_nil, Int.reduceToNat, Int.reducePow, Nat.reducePow, N0]) | (refine wk_intro (by kernel_rfl) ?_) | (refine vp_draw (l := []) (by kernel_rfl) ?_))
    exact ⟨_, _, ⟨false, lo, hi, rfl, rfl, .inr (.inr ⟨rfl, rfl, rfl, ht⟩)⟩, rfl, rfl⟩
theorem takes_out {n : Int} {q lo hi x : Rat} (zx : szR x 3) (zl : szR lo 3) (zh : szR hi 3) (hl : lo < x) (hh : hi ≤ x) :
    ∃ r exps, (r = .bool false ∧ exps = [some (schC n q lo hi), none]) ∧ FnI CX 65 [.imp (schC n q lo hi), .sv (rv x)] r exps := by
  have c1 := rat_Cmp (RatA_rv zx) (RatA_rv zl) (by omega) (by omega) (by omega)
  have c2 := rat_Cmp (RatA_rv zx) (RatA_rv zh) (by omega) (by omega) (by omega)
  have e1 := cmpR_le (q := x) (r := lo)
  have e2 := cmpR_ge (q := x) (r := hi)
  rw [decide_eq_false (show ¬ x ≤ lo by grind)] at e1
  rw [decide_eq_true hh] at e2
  refine FnI_of (fn := Tryz.f65) (body := (Tryz.f65).body.get!) (by kernel_rfl) (by kernel_rfl) (by kernel_rfl) (fun _ => rfl) (Nat.le_of_ble_eq_true (by kernel_rfl)) ?_
  unfold Tryz.f65
  simp only [Option.get!_some, exp_side]
  repeat (first | (simp only [go_sem, Nat.reduceEqDiff, Nat.reduceAdd, Nat.reduceSub, Nat.reduceMul, Nat.reduceLeDiff, Nat.reduceLT, reduceIte, reduceCtorEq, Nat.succ_ne_zero, elemsC, Int.reduceToNat, Nat.reducePow, N0, e1, e2]) | (simp (disch := (first | omega | (simp only [AL, List.length_map]; omega))) only [AR, AL, ifT, ifF, take_all, List.length_cons, List.length_nil, Int.reduceToNat, Int.reducePow, Nat.reducePow, N0, e1, e2]) | (refine wk_intro (by kernel_rfl) ?_) | (refine vp_draw (l := []) (by kernel_rfl) ?_) | (refine vf_of (by first | exact c1 | exact c2) ?_))
  exact ⟨_, _, ⟨rfl, rfl⟩, rfl, rfl⟩
end Go.Proofs.YtecjelnpmcnbaaaGreat
namespace Go.Proofs.YtecjelnpmcnbaaaGreat
open Go.Ev
theorem same_natV (xs : List Nat) : sameSV (natV xs) (natV xs) = true := by
  have key : ∀ xs : List Nat, sameL (xs.map limb) (xs.map limb) = true := by
    intro xs
    induction xs with
    | nil => rfl
    | cons x xs ih =>
      rw [List.map_cons]
      unfold sameL
      rw [ih, Bool.and_true]
      unfold limb sameSV
      simp
  unfold natV sameSV
  rw [key]
  simp
theorem same_sch (n : Int) (q lo hi : Rat) : sameL (schC n q lo hi) (schC n q lo hi) = true := by
  simp only [sameL, same_natV, Bool.and_true, Bool.true_and]
  simp [sameSV]
theorem to_facts {p : Nat} (hp : p ≤ 16) : ∃ to t : Rat, to = mkRat 1 (2 ^ p) ∧ t = to / 4 ∧ t * p2 (p + 2) = 1 ∧ 0 < t ∧ to = 4 * t ∧ 1 ≤ to * 65536 ∧ szR to 1 ∧ szR t 1 := by
  have m := mk_mulP (1 : Int) (b := 2 ^ p) (Nat.pow_pos (by omega))
  have P := p2_pos p
  have le : p2 p ≤ 65536 := by
    have h : 2 ^ p ≤ 65536 := by
      have := Nat.pow_le_pow_right (n := 2) (by omega) hp
      exact this
    exact_mod_cast h
  have e2 : p2 (p + 2) = p2 p * 4 := by rw [p2_cat]; rfl
  have m1 : mkRat 1 (2 ^ p) * p2 p = 1 := m
  have z1 : szR (mkRat 1 (2 ^ p)) 1 := by
    have h : 2 ^ p < 4294967296 ^ 1 := by
      have := Nat.pow_le_pow_right (n := 2) (by omega) hp
      omega
    exact szR_mk (s := false) (n := 1) (by decide) (lim_len_lt h) (by omega)
  have e4 : mkRat 1 (2 ^ p) / 4 = mkRat 1 (2 ^ (p + 2)) := by
    have m2 := mk_mulP (1 : Int) (b := 2 ^ (p + 2)) (Nat.pow_pos (by omega))
    have m3 : mkRat 1 (2 ^ (p + 2)) * p2 (p + 2) = 1 := m2
    rw [e2] at m3
    generalize mkRat 1 (2 ^ (p + 2)) = y at *
    generalize mkRat 1 (2 ^ p) = x at *
    generalize p2 p = w at *
    grind
  have z2 : szR (mkRat 1 (2 ^ p) / 4) 1 := by
    rw [e4]
    have h : 2 ^ (p + 2) < 4294967296 ^ 1 := by
      have := Nat.pow_le_pow_right (n := 2) (by omega) (show p + 2 ≤ 18 by omega)
      omega
    exact szR_mk (s := false) (n := 1) (by decide) (lim_len_lt h) (by omega)
  clear e4
  refine ⟨_, _, rfl, rfl, ?_, ?_, ?_, ?_, z1, z2⟩
  · rw [e2]
    generalize mkRat 1 (2 ^ p) = x at *
    generalize p2 p = w at *
    grind
  · clear m z1 z2 e2
    generalize mkRat 1 (2 ^ p) = x at *
    generalize p2 p = w at *
    have : 0 < x := by
      rcases Rat.le_total (a := x) (b := 0) with h | h
      · have := Rat.mul_le_mul_of_nonneg_right h (Rat.le_of_lt P)
        grind
      · by_cases e : x = 0
        · subst e; grind
        · grind
    grind
  · generalize mkRat 1 (2 ^ p) = x at *
    grind
  · clear m z1 z2 e2
    generalize mkRat 1 (2 ^ p) = x at *
    generalize p2 p = w at *
    have x0 : 0 ≤ x := by
      rcases Rat.le_total (a := x) (b := 0) with h | h
      · have := Rat.mul_le_mul_of_nonneg_right h (Rat.le_of_lt P)
        grind
      · exact h
    have := Rat.mul_le_mul_of_nonneg_left le x0
    grind
theorem srch_round {n k p : Nat} {q lo hi t : Rat} (S : Srch n 3 q k lo hi) (hp : p ≤ 16) (ht : t * p2 (p + 2) = 1) (t0 : 0 < t) (hw : 4 * t < hi - lo) :
    ∃ m, m = (lo + hi) / 2 ∧ lo < m - t ∧ m - t < m ∧ m < m + t ∧ m + t < hi ∧ Dy (18 + (k + 1)) lo ∧ Dy (18 + (k + 1)) hi ∧ Dy (18 + (k + 1)) m ∧ Dy (18 + (k + 1)) (m - t) ∧ Dy (18 + (k + 1)) (m + t) ∧
      (hi - (m - t)) * 4 ≤ (hi - lo) * 3 ∧ (m + t - lo) * 4 ≤ (hi - lo) * 3 := by
  have dm := dy_mid S.dlo S.dhi
  have l0 := S.low.1
  have h1 := S.high.1
  refine ⟨_, rfl, by grind, by grind, by grind, by grind, dy_up S.dlo, dy_up S.dhi, dm, ?_, ?_, by grind, by grind⟩
  · exact dy_sub dm (by omega) ht (by grind)
  · exact dy_add dm (by omega) ht (by grind)
theorem low_of {n : Nat} {q x : Rat} (h0 : 0 < x) (h1 : x < 1) (h : ∃ h, HiS n 3 x h ∧ h < q) : LowOk n 3 q x := ⟨Rat.le_of_lt h0, .inr ⟨h1, h⟩⟩
theorem high_of {n : Nat} {q x : Rat} (h0 : 0 < x) (h1 : x < 1) (h : ∃ l, LoS n 3 x l ∧ q < l) : HighOk n 3 q x := ⟨Rat.le_of_lt h1, .inr ⟨h0, h⟩⟩
end Go.Proofs.YtecjelnpmcnbaaaGreat
namespace Go.Proofs.YtecjelnpmcnbaaaGreat
open Go.Ev
set_option maxHeartbeats 8000000 in
theorem narrows_fn {n p : Nat} (hn : 1 ≤ n ∧ n ≤ 12) (hp : p ≤ 16) {q to t : Rat} (zq : szR q 1) (q0 : 1 ≤ q * 4294967296) (q1 : 1 ≤ (1 - q) * 4294967296)
    (htt : t = to / 4) (ht : t * p2 (p + 2) = 1) (t0 : 0 < t) (hto : to = 4 * t) (h65 : 1 ≤ to * 65536) (z1 : szR to 1) (z2 : szR t 1) :
    ∃ r exps, (∃ k lo hi, Srch n 3 q k lo hi ∧ k ≤ 39 ∧ hi - lo ≤ to ∧ r = .bool true ∧ exps = [some (schC n q lo hi), none]) ∧ FnI CX 28 [.imp (schC n q 0 1), .sv (rv to)] r exps := by
  have r4 := rat_Int 4 (by omega)
  have r2 := rat_Int 2 (by omega)
  have ov4 := q_over (RatA_rv z1) (RatA_rv (int_szR (n := 4) (by omega))) (by omega) (by omega) (by omega)
  have c4 : ((4 : Int) : Rat) = 4 := rfl
  have c2 : ((2 : Int) : Rat) = 2 := rfl
  rw [c4] at r4 ov4
  rw [← htt] at ov4
  rw [c2] at r2
  refine FnI_of (fn := Tryz.f28) (body := (Tryz.f28).body.get!) (by kernel_rfl) (by kernel_rfl) (by kernel_rfl) (fun _ => rfl) (Nat.le_of_ble_eq_true (by kernel_rfl)) ?_
  unfold Tryz.f28
  simp only [Option.get!_some, exp_side]
  repeat (first | (simp only [go_sem, Nat.reduceEqDiff, Nat.reduceAdd, Nat.reduceSub, Nat.reduceMul, Nat.reduceLeDiff, Nat.reduceLT, reduceIte, reduceCtorEq, Nat.succ_ne_zero, elemsC, Int.reduceToNat, Nat.reducePow, N0]) | (simp (disch := (first | omega | (simp only [AL, List.length_map]; omega))) only [AR, AL, ifT, ifF, take_all, List.length_cons, List.length_nil, Int.reduceToNat, Int.reducePow, Nat.reducePow, N0]) | (refine wk_intro (by kernel_rfl) ?_) | (refine vp_draw (l := []) (by kernel_rfl) ?_) | (refine vf_of (by first | exact r4 | exact ov4) ?_))
  refine vp_loop_fam (fun m s => s.tmp 0 = .ptr 1000000 0 0 ∧ s.tmp 3 = .ptr 3 0 0 ∧ s.obj 3 0 = some [.bool (decide (to.num < 0)), natV (lim to.num.natAbs), natV (lim to.den)] ∧ s.tmp 5 = .ptr 5 0 0 ∧ s.obj 5 0 = some [.bool (decide (t.num < 0)), natV (lim t.num.natAbs), natV (lim t.den)] ∧
      ∃ k lo hi, s.obj 1000000 0 = some (schC n q lo hi) ∧ Srch n 3 q k lo hi ∧ k ≤ 39 ∧ m = 40 - k) 40 ?_ ?_
  · exact ⟨rfl, rfl, rfl, rfl, rfl, 0, 0, 1, rfl, srch_start, by omega, rfl⟩
  rintro m0 s ⟨i0, i3, o3, i5, o5, k, lo, hi, oS, S, hk, rfl⟩
  have zl := dy_sz S.dlo (by omega)
  have zh := dy_sz S.dhi (by omega)
  obtain ⟨_, _, ⟨rfl, rfl⟩, wd⟩ := wide_fn (n := (n : Int)) (q := q) zl zh
  have cw := rat_Cmp (RatA_rv (szR_sub zh zl (by omega))) (RatA_rv z1) (by omega) (by omega) (by omega)
  have ew := cmpR_gt (q := hi - lo) (r := to)
  by_cases hw : to < hi - lo
  · rw [decide_eq_true hw] at ew
    have hk39 := srch_k S (by grind)
    obtain ⟨m, hm, a1, a2, a3, a4, d1, d2, d3, d4, d5, w1, w2⟩ := srch_round S hp ht t0 (by rw [← hto]; exact hw)
    have ad := rat_Add (RatA_rv zl) (RatA_rv zh) (by omega) (by omega) (by omega)
    have zs := szR_add zl zh (by omega)
    have ov := q_over (RatA_rv zs) (RatA_rv (int_szR (n := 2) (by omega))) (by omega) (by omega) (by omega)
    rw [c2, ← hm] at ov
    have zm := dy_sz d3 (by omega)
    have zm1 := dy_sz d4 (by omega)
    have zm2 := dy_sz d5 (by omega)
    have l0 := S.low.1
    have h1 := S.high.1
    obtain ⟨_, _, ⟨b, lo1, hi1, rfl, rfl, cm⟩, tk⟩ := takes_in hn zq zm zl zh (show 0 < m by grind) (show m < 1 by grind) (show lo < m by grind) (show m < hi by grind)
    have sb := rat_Sub (RatA_rv zm) (RatA_rv z2) (by omega) (by omega) (by omega)
    have ad2 := rat_Add (RatA_rv zm) (RatA_rv z2) (by omega) (by omega) (by omega)
    obtain ⟨_, _, ⟨b2, lo2, hi2, rfl, rfl, cx⟩, tk2⟩ := takes_in hn zq zm1 zl zh (show 0 < m - t by grind) (show m - t < 1 by grind) (show lo < m - t by grind) (show m - t < hi by grind)
    repeat (first | (simp only [go_sem, Nat.reduceEqDiff, Nat.reduceAdd, Nat.reduceSub, Nat.reduceMul, Nat.reduceLeDiff, Nat.reduceLT, reduceIte, reduceCtorEq, Nat.succ_ne_zero, elemsC, Int.reduceToNat, Nat.reducePow, i0, i3, o3, i5, o5, oS]) | (simp (disch := (first | omega | (simp only [AL, List.length_map]; omega))) only [AR, AL, ifT, ifF, take_all, List.length_cons, List.length_nil, Int.reduceToNat, Int.reducePow, Nat.reducePow, i0, i3, o3, i5, o5, oS]) | (refine wk_intro (by kernel_rfl) ?_) | (refine vp_draw (l := []) (by kernel_rfl) ?_))
    refine vr_of wd (by kernel_rfl) (by kernel_rfl) ?_ (same_sch _ _ _ _) ?_
    · simp only [go_sem, Nat.reduceEqDiff, Nat.reduceAdd, Nat.reduceSub, Nat.reduceMul, Nat.reduceLeDiff, Nat.reduceLT, reduceIte, reduceCtorEq, Nat.succ_ne_zero, elemsC, Int.reduceToNat, Nat.reducePow, i0, i3, o3, i5, o5, oS]
    repeat (first | (simp only [go_sem, Nat.reduceEqDiff, Nat.reduceAdd, Nat.reduceSub, Nat.reduceMul, Nat.reduceLeDiff, Nat.reduceLT, reduceIte, reduceCtorEq, Nat.succ_ne_zero, elemsC, Int.reduceToNat, Nat.reducePow, i0, i3, o3, i5, o5, oS, ew]) | (simp (disch := (first | omega | (simp only [AL, List.length_map]; omega))) only [AR, AL, ifT, ifF, take_all, List.length_cons, List.length_nil, Int.reduceToNat, Int.reducePow, Nat.reducePow, i0, i3, o3, i5, o5, oS, ew]) | (refine wk_intro (by kernel_rfl) ?_) | (refine vp_draw (l := []) (by kernel_rfl) ?_) | (refine vf_of (by first | exact cw | exact ad | exact r2 | exact ov) ?_))
    refine vi_of tk rfl ?_
    rcases cm with ⟨rfl, e1, e2, hc⟩ | ⟨rfl, e1, e2, hc⟩ | ⟨rfl, e1, e2, -⟩
    · have e1 := e1.symm; have e2 := e2.symm; subst e1 e2
      repeat (first | (simp only [go_sem, Nat.reduceEqDiff, Nat.reduceAdd, Nat.reduceSub, Nat.reduceMul, Nat.reduceLeDiff, Nat.reduceLT, reduceIte, reduceCtorEq, Nat.succ_ne_zero, elemsC, Int.reduceToNat, Nat.reducePow, i0, i3, o3, i5, o5, oS]) | (simp (disch := (first | omega | (simp only [AL, List.length_map]; omega))) only [AR, AL, ifT, ifF, take_all, List.length_cons, List.length_nil, Int.reduceToNat, Int.reducePow, Nat.reducePow, i0, i3, o3, i5, o5, oS]) | (refine wk_intro (by kernel_rfl) ?_) | (refine vp_draw (l := []) (by kernel_rfl) ?_))
      exact ⟨40 - (k + 1), by omega, k + 1, _, _, rfl, srch_next S (low_of (by grind) (by grind) hc) S.high (by grind) d3 d2 (by grind), by omega, rfl⟩
    · have e1 := e1.symm; have e2 := e2.symm; subst e1 e2
      repeat (first | (simp only [go_sem, Nat.reduceEqDiff, Nat.reduceAdd, Nat.reduceSub, Nat.reduceMul, Nat.reduceLeDiff, Nat.reduceLT, reduceIte, reduceCtorEq, Nat.succ_ne_zero, elemsC, Int.reduceToNat, Nat.reducePow, i0, i3, o3, i5, o5, oS]) | (simp (disch := (first | omega | (simp only [AL, List.length_map]; omega))) only [AR, AL, ifT, ifF, take_all, List.length_cons, List.length_nil, Int.reduceToNat, Int.reducePow, Nat.reducePow, i0, i3, o3, i5, o5, oS]) | (refine wk_intro (by kernel_rfl) ?_) | (refine vp_draw (l := []) (by kernel_rfl) ?_))
      exact ⟨40 - (k + 1), by omega, k + 1, _, _, rfl, srch_next S S.low (high_of (by grind) (by grind) hc) (by grind) d1 d3 (by grind), by omega, rfl⟩
    · have e1 := e1.symm; have e2 := e2.symm; subst e1 e2
      repeat (first | (simp only [go_sem, Nat.reduceEqDiff, Nat.reduceAdd, Nat.reduceSub, Nat.reduceMul, Nat.reduceLeDiff, Nat.reduceLT, reduceIte, reduceCtorEq, Nat.succ_ne_zero, elemsC, Int.reduceToNat, Nat.reducePow, i0, i3, o3, i5, o5, oS]) | (simp (disch := (first | omega | (simp only [AL, List.length_map]; omega))) only [AR, AL, ifT, ifF, take_all, List.length_cons, List.length_nil, Int.reduceToNat, Int.reducePow, Nat.reducePow, i0, i3, o3, i5, o5, oS]) | (refine wk_intro (by kernel_rfl) ?_) | (refine vp_draw (l := []) (by kernel_rfl) ?_) | (refine vf_of (by first | exact sb) ?_))
      refine vi_of tk2 rfl ?_
      rcases cx with ⟨rfl, e1, e2, hc⟩ | ⟨rfl, e1, e2, hc⟩ | ⟨rfl, e1, e2, hc⟩
      · have e1 := e1.symm; have e2 := e2.symm; subst e1 e2
        obtain ⟨_, _, ⟨b3, lo3, hi3, rfl, rfl, cy⟩, tk3⟩ := takes_in hn zq zm2 zm1 zh (show 0 < m + t by grind) (show m + t < 1 by grind) (show m - t < m + t by grind) (show m + t < hi by grind)
        repeat (first | (simp only [go_sem, Nat.reduceEqDiff, Nat.reduceAdd, Nat.reduceSub, Nat.reduceMul, Nat.reduceLeDiff, Nat.reduceLT, reduceIte, reduceCtorEq, Nat.succ_ne_zero, elemsC, Int.reduceToNat, Nat.reducePow, i0, i3, o3, i5, o5, oS]) | (simp (disch := (first | omega | (simp only [AL, List.length_map]; omega))) only [AR, AL, ifT, ifF, take_all, List.length_cons, List.length_nil, Int.reduceToNat, Int.reducePow, Nat.reducePow, i0, i3, o3, i5, o5, oS]) | (refine wk_intro (by kernel_rfl) ?_) | (refine vp_draw (l := []) (by kernel_rfl) ?_) | (refine vf_of (by first | exact ad2) ?_))
        refine vi_of tk3 rfl ?_
        rcases cy with ⟨rfl, e3, e4, hc3⟩ | ⟨rfl, e3, e4, hc3⟩ | ⟨rfl, e3, e4, -⟩
        · have e3 := e3.symm; have e4 := e4.symm; subst e3 e4
          repeat (first | (simp only [go_sem, Nat.reduceEqDiff, Nat.reduceAdd, Nat.reduceSub, Nat.reduceMul, Nat.reduceLeDiff, Nat.reduceLT, reduceIte, reduceCtorEq, Nat.succ_ne_zero, elemsC, Int.reduceToNat, Nat.reducePow, i0, i3, o3, i5, o5, oS, Bool.not_true, Bool.not_false]) | (simp (disch := (first | omega | (simp only [AL, List.length_map]; omega))) only [AR, AL, ifT, ifF, take_all, List.length_cons, List.length_nil, Int.reduceToNat, Int.reducePow, Nat.reducePow, i0, i3, o3, i5, o5, oS, Bool.not_true, Bool.not_false]) | (refine wk_intro (by kernel_rfl) ?_) | (refine vp_draw (l := []) (by kernel_rfl) ?_))
          exact ⟨40 - (k + 1), by omega, k + 1, _, _, rfl, srch_next S (low_of (by grind) (by grind) hc3) S.high (by grind) d5 d2 (by grind), by omega, rfl⟩
        · have e3 := e3.symm; have e4 := e4.symm; subst e3 e4
          repeat (first | (simp only [go_sem, Nat.reduceEqDiff, Nat.reduceAdd, Nat.reduceSub, Nat.reduceMul, Nat.reduceLeDiff, Nat.reduceLT, reduceIte, reduceCtorEq, Nat.succ_ne_zero, elemsC, Int.reduceToNat, Nat.reducePow, i0, i3, o3, i5, o5, oS, Bool.not_true, Bool.not_false]) | (simp (disch := (first | omega | (simp only [AL, List.length_map]; omega))) only [AR, AL, ifT, ifF, take_all, List.length_cons, List.length_nil, Int.reduceToNat, Int.reducePow, Nat.reducePow, i0, i3, o3, i5, o5, oS, Bool.not_true, Bool.not_false]) | (refine wk_intro (by kernel_rfl) ?_) | (refine vp_draw (l := []) (by kernel_rfl) ?_))
          exact ⟨40 - (k + 1), by omega, k + 1, _, _, rfl, srch_next S (low_of (by grind) (by grind) hc) (high_of (by grind) (by grind) hc3) (by grind) d4 d5 (by grind), by omega, rfl⟩
        · have e3 := e3.symm; have e4 := e4.symm; subst e3 e4
          repeat (first | (simp only [go_sem, Nat.reduceEqDiff, Nat.reduceAdd, Nat.reduceSub, Nat.reduceMul, Nat.reduceLeDiff, Nat.reduceLT, reduceIte, reduceCtorEq, Nat.succ_ne_zero, elemsC, Int.reduceToNat, Nat.reducePow, i0, i3, o3, i5, o5, oS, Bool.not_true, Bool.not_false]) | (simp (disch := (first | omega | (simp only [AL, List.length_map]; omega))) only [AR, AL, ifT, ifF, take_all, List.length_cons, List.length_nil, Int.reduceToNat, Int.reducePow, Nat.reducePow, i0, i3, o3, i5, o5, oS, Bool.not_true, Bool.not_false]) | (refine wk_intro (by kernel_rfl) ?_) | (refine vp_draw (l := []) (by kernel_rfl) ?_))
          exact ⟨40 - (k + 1), by omega, k + 1, _, _, rfl, srch_next S (low_of (by grind) (by grind) hc) S.high (by grind) d4 d2 w1, by omega, rfl⟩
      · have e1 := e1.symm; have e2 := e2.symm; subst e1 e2
        obtain ⟨_, _, ⟨rfl, rfl⟩, tk3⟩ := takes_out (n := (n : Int)) (q := q) zm2 zl zm1 (show lo < m + t by grind) (show m - t ≤ m + t by grind)
        repeat (first | (simp only [go_sem, Nat.reduceEqDiff, Nat.reduceAdd, Nat.reduceSub, Nat.reduceMul, Nat.reduceLeDiff, Nat.reduceLT, reduceIte, reduceCtorEq, Nat.succ_ne_zero, elemsC, Int.reduceToNat, Nat.reducePow, i0, i3, o3, i5, o5, oS]) | (simp (disch := (first | omega | (simp only [AL, List.length_map]; omega))) only [AR, AL, ifT, ifF, take_all, List.length_cons, List.length_nil, Int.reduceToNat, Int.reducePow, Nat.reducePow, i0, i3, o3, i5, o5, oS]) | (refine wk_intro (by kernel_rfl) ?_) | (refine vp_draw (l := []) (by kernel_rfl) ?_) | (refine vf_of (by first | exact ad2) ?_))
        refine vi_of tk3 rfl ?_
        repeat (first | (simp only [go_sem, Nat.reduceEqDiff, Nat.reduceAdd, Nat.reduceSub, Nat.reduceMul, Nat.reduceLeDiff, Nat.reduceLT, reduceIte, reduceCtorEq, Nat.succ_ne_zero, elemsC, Int.reduceToNat, Nat.reducePow, i0, i3, o3, i5, o5, oS, Bool.not_true, Bool.not_false]) | (simp (disch := (first | omega | (simp only [AL, List.length_map]; omega))) only [AR, AL, ifT, ifF, take_all, List.length_cons, List.length_nil, Int.reduceToNat, Int.reducePow, Nat.reducePow, i0, i3, o3, i5, o5, oS, Bool.not_true, Bool.not_false]) | (refine wk_intro (by kernel_rfl) ?_) | (refine vp_draw (l := []) (by kernel_rfl) ?_))
        exact ⟨40 - (k + 1), by omega, k + 1, _, _, rfl, srch_next S S.low (high_of (by grind) (by grind) hc) (by grind) d1 d4 (by grind), by omega, rfl⟩
      · have e1 := e1.symm; have e2 := e2.symm; subst e1 e2
        obtain ⟨_, _, ⟨b3, lo3, hi3, rfl, rfl, cy⟩, tk3⟩ := takes_in hn zq zm2 zl zh (show 0 < m + t by grind) (show m + t < 1 by grind) (show lo < m + t by grind) (show m + t < hi by grind)
        repeat (first | (simp only [go_sem, Nat.reduceEqDiff, Nat.reduceAdd, Nat.reduceSub, Nat.reduceMul, Nat.reduceLeDiff, Nat.reduceLT, reduceIte, reduceCtorEq, Nat.succ_ne_zero, elemsC, Int.reduceToNat, Nat.reducePow, i0, i3, o3, i5, o5, oS]) | (simp (disch := (first | omega | (simp only [AL, List.length_map]; omega))) only [AR, AL, ifT, ifF, take_all, List.length_cons, List.length_nil, Int.reduceToNat, Int.reducePow, Nat.reducePow, i0, i3, o3, i5, o5, oS]) | (refine wk_intro (by kernel_rfl) ?_) | (refine vp_draw (l := []) (by kernel_rfl) ?_) | (refine vf_of (by first | exact ad2) ?_))
        refine vi_of tk3 rfl ?_
        rcases cy with ⟨rfl, e3, e4, hc3⟩ | ⟨rfl, e3, e4, hc3⟩ | ⟨rfl, e3, e4, hc3⟩
        · have e3 := e3.symm; have e4 := e4.symm; subst e3 e4
          repeat (first | (simp only [go_sem, Nat.reduceEqDiff, Nat.reduceAdd, Nat.reduceSub, Nat.reduceMul, Nat.reduceLeDiff, Nat.reduceLT, reduceIte, reduceCtorEq, Nat.succ_ne_zero, elemsC, Int.reduceToNat, Nat.reducePow, i0, i3, o3, i5, o5, oS, Bool.not_true, Bool.not_false]) | (simp (disch := (first | omega | (simp only [AL, List.length_map]; omega))) only [AR, AL, ifT, ifF, take_all, List.length_cons, List.length_nil, Int.reduceToNat, Int.reducePow, Nat.reducePow, i0, i3, o3, i5, o5, oS, Bool.not_true, Bool.not_false]) | (refine wk_intro (by kernel_rfl) ?_) | (refine vp_draw (l := []) (by kernel_rfl) ?_))
          exact ⟨40 - (k + 1), by omega, k + 1, _, _, rfl, srch_next S (low_of (by grind) (by grind) hc3) S.high (by grind) d5 d2 (by grind), by omega, rfl⟩
        · have e3 := e3.symm; have e4 := e4.symm; subst e3 e4
          repeat (first | (simp only [go_sem, Nat.reduceEqDiff, Nat.reduceAdd, Nat.reduceSub, Nat.reduceMul, Nat.reduceLeDiff, Nat.reduceLT, reduceIte, reduceCtorEq, Nat.succ_ne_zero, elemsC, Int.reduceToNat, Nat.reducePow, i0, i3, o3, i5, o5, oS, Bool.not_true, Bool.not_false]) | (simp (disch := (first | omega | (simp only [AL, List.length_map]; omega))) only [AR, AL, ifT, ifF, take_all, List.length_cons, List.length_nil, Int.reduceToNat, Int.reducePow, Nat.reducePow, i0, i3, o3, i5, o5, oS, Bool.not_true, Bool.not_false]) | (refine wk_intro (by kernel_rfl) ?_) | (refine vp_draw (l := []) (by kernel_rfl) ?_))
          exact ⟨40 - (k + 1), by omega, k + 1, _, _, rfl, srch_next S S.low (high_of (by grind) (by grind) hc3) (by grind) d1 d5 w2, by omega, rfl⟩
        · exact (not_near (by omega) (by omega) (by omega) (by omega) (show 0 < m - t by grind) (show 1 ≤ (m + t - (m - t)) * 131072 by grind) (show m + t < 1 by grind) q0 q1 hc hc3).elim
  · rw [decide_eq_false hw] at ew
    repeat (first | (simp only [go_sem, Nat.reduceEqDiff, Nat.reduceAdd, Nat.reduceSub, Nat.reduceMul, Nat.reduceLeDiff, Nat.reduceLT, reduceIte, reduceCtorEq, Nat.succ_ne_zero, elemsC, Int.reduceToNat, Nat.reducePow, i0, i3, o3, i5, o5, oS]) | (simp (disch := (first | omega | (simp only [AL, List.length_map]; omega))) only [AR, AL, ifT, ifF, take_all, List.length_cons, List.length_nil, Int.reduceToNat, Int.reducePow, Nat.reducePow, i0, i3, o3, i5, o5, oS]) | (refine wk_intro (by kernel_rfl) ?_) | (refine vp_draw (l := []) (by kernel_rfl) ?_))
    refine vr_of wd (by kernel_rfl) (by kernel_rfl) ?_ (same_sch _ _ _ _) ?_
    · simp only [go_sem, Nat.reduceEqDiff, Nat.reduceAdd, Nat.reduceSub, Nat.reduceMul, Nat.reduceLeDiff, Nat.reduceLT, reduceIte, reduceCtorEq, Nat.succ_ne_zero, elemsC, Int.reduceToNat, Nat.reducePow, i0, i3, o3, i5, o5, oS]
    repeat (first | (simp only [go_sem, Nat.reduceEqDiff, Nat.reduceAdd, Nat.reduceSub, Nat.reduceMul, Nat.reduceLeDiff, Nat.reduceLT, reduceIte, reduceCtorEq, Nat.succ_ne_zero, elemsC, Int.reduceToNat, Nat.reducePow, i0, i3, o3, i5, o5, oS, ew]) | (simp (disch := (first | omega | (simp only [AL, List.length_map]; omega))) only [AR, AL, ifT, ifF, take_all, List.length_cons, List.length_nil, Int.reduceToNat, Int.reducePow, Nat.reducePow, i0, i3, o3, i5, o5, oS, ew]) | (refine wk_intro (by kernel_rfl) ?_) | (refine vp_draw (l := []) (by kernel_rfl) ?_) | (refine vf_of (by first | exact cw) ?_))
    exact ⟨_, _, ⟨k, lo, hi, S, hk, by grind, rfl, rfl⟩, rfl, rfl⟩
end Go.Proofs.YtecjelnpmcnbaaaGreat
namespace Go.Proofs.YtecjelnpmcnbaaaGreat
open Go.Ev
theorem blen_half {x : Nat} (h : x ≠ 0) : blen x = blen (x / 2) + 1 := by
  have h1 := blen_iff (x := x) (k := blen x)
  have h2 := blen_iff (x := x / 2) (k := blen (x / 2))
  have h3 := blen_iff (x := x) (k := blen (x / 2) + 1)
  have h4 := blen_iff (x := x / 2) (k := blen x - 1)
  have h5 : blen x ≠ 0 := fun e => by rw [e] at h1; simp at h1; omega
  have h6 : x < 2 ^ blen x := h1.1 (Nat.le_refl _)
  have h7 : x / 2 < 2 ^ blen (x / 2) := h2.1 (Nat.le_refl _)
  rw [Nat.pow_succ] at h3
  have h8 : 2 ^ blen x = 2 ^ (blen x - 1) * 2 := by rw [← Nat.pow_succ, Nat.succ_eq_add_one, show blen x - 1 + 1 = blen x by omega]
  have h9 := h3.2 (by omega)
  have h10 := h4.2 (by omega)
  omega
theorem ref1_Bits {N : Nat} (h : (lim N).length ≤ 1000000) : Go.Ev.Fn CX 237 [natV (lim N)] (.int .i64 (blen N : Nat)) := by
  have t := ref1_Trim (lim N) (okL_lim N) (by omega)
  rw [wth_lim] at t
  by_cases h0 : N = 0
  · subst h0
    have e : (lim 0).length = 0 := by rw [lim_zero]; rfl
    have e2 : blen 0 = 0 := rfl
    rw [e2]
    refine Go.Ev.Fn.intro (fn := Tryz.f237) (body := (Tryz.f237).body.get!) (by kernel_rfl) (by kernel_rfl) (by kernel_rfl) (fun _ => rfl) (Nat.le_of_ble_eq_true (by kernel_rfl)) ?_; unfold Tryz.f237; simp only [Option.get!_some]
    repeat (first | (simp only [go_sem, Nat.reduceEqDiff, Nat.reduceAdd, Nat.reduceSub, Nat.reduceMul, Nat.reduceLeDiff, Nat.reduceLT, reduceIte, reduceCtorEq, Nat.succ_ne_zero, elemsC, Int.reduceToNat, Nat.reducePow]) | (simp (disch := (first | omega | (simp only [AL, List.length_map]; omega))) only [AR, AL, ifT, ifF, take_all, List.length_cons, List.length_nil, Int.reduceToNat, Int.reducePow, Nat.reducePow]) | (refine wk_intro (by kernel_rfl) ?_) | (refine vf_of (by first | exact t) ?_))
    rfl
  · have e := blen_lims N h0
    have hl := lim_pos h0
    have hg := getD_lt (okL_lim N) ((lim N).length - 1)
    have hb : blen ((lim N).getD ((lim N).length - 1) 0) ≤ 32 := blen_iff.2 hg
    rw [e]
    generalize hgx : (lim N).getD ((lim N).length - 1) 0 = x at *
    generalize hcs : lim N = cs at *
    refine Go.Ev.Fn.intro (fn := Tryz.f237) (body := (Tryz.f237).body.get!) (by kernel_rfl) (by kernel_rfl) (by kernel_rfl) (fun _ => rfl) (Nat.le_of_ble_eq_true (by kernel_rfl)) ?_; unfold Tryz.f237; simp only [Option.get!_some]
    repeat (first | (simp only [go_sem, Nat.reduceEqDiff, Nat.reduceAdd, Nat.reduceSub, Nat.reduceMul, Nat.reduceLeDiff, Nat.reduceLT, reduceIte, reduceCtorEq, Nat.succ_ne_zero, elemsC, Int.reduceToNat, Nat.reducePow, hgx]) | (simp (disch := (first | omega | (simp only [AL, List.length_map]; omega))) only [AR, AL, ifT, ifF, take_all, List.length_cons, List.length_nil, Int.reduceToNat, Int.reducePow, Nat.reducePow, hgx]) | (refine wk_intro (by kernel_rfl) ?_) | (refine vf_of (by first | exact t) ?_))
    refine vp_loop_inv (fun s => ∃ y : Nat, y < 4294967296 ∧ blen y ≤ 32 ∧ s.tmp 5 = .sv (.int .u32 (y : Int)) ∧ blen y ≤ blen x ∧ s.tmp 4 = .sv (.int .i64 ((32 * (cs.length - 1) + (blen x - blen y) : Nat) : Int)))
      (fun s => match s.tmp 5 with | .sv (.int _ i) => i.toNat | _ => 0) ⟨x, hg, hb, rfl, Nat.le_refl _, by rw [Nat.sub_self, Nat.add_zero]; first | rfl | (congr 2; omega)⟩ ?_
    rintro s ⟨y, g1, g2, i5, g3, i4⟩
    by_cases hy : y = 0
    · subst hy
      rw [show blen 0 = 0 from rfl, Nat.sub_zero] at i4
      repeat (first | (simp only [go_sem, Nat.reduceEqDiff, Nat.reduceAdd, Nat.reduceSub, Nat.reduceMul, Nat.reduceLeDiff, Nat.reduceLT, reduceIte, reduceCtorEq, Nat.succ_ne_zero, elemsC, Int.reduceToNat, Nat.reducePow, i5, i4]) | (simp (disch := (first | omega | (simp only [AL, List.length_map]; omega))) only [AR, AL, ifT, ifF, take_all, List.length_cons, List.length_nil, Int.reduceToNat, Int.reducePow, Nat.reducePow, i5, i4]) | (refine wk_intro (by kernel_rfl) ?_))
    · have e2 := blen_half hy
      repeat (first | (simp only [go_sem, Nat.reduceEqDiff, Nat.reduceAdd, Nat.reduceSub, Nat.reduceMul, Nat.reduceLeDiff, Nat.reduceLT, reduceIte, reduceCtorEq, Nat.succ_ne_zero, elemsC, Int.reduceToNat, Nat.reducePow, i5, i4]) | (simp (disch := (first | omega | (simp only [AL, List.length_map]; omega))) only [AR, AL, ifT, ifF, take_all, List.length_cons, List.length_nil, Int.reduceToNat, Int.reducePow, Nat.reducePow, i5, i4]) | (refine wk_intro (by kernel_rfl) ?_))
      exact ⟨⟨y / 2, by omega, by omega, by first | rfl | (congr 2; omega), by omega, by first | rfl | (congr 2; omega)⟩, by omega⟩
theorem ref4_root {a : Nat} (h : (lim a).length ≤ 100) : Go.Ev.Fn CX 210 [natV (lim a)] (natV (lim (rtN a))) := by
  have b := ref1_Bits (N := a) (by omega)
  have hb : a < 2 ^ blen a := blen_iff.1 (Nat.le_refl _)
  have hB : blen a ≤ 3200 := by
    obtain ⟨K, hK⟩ : ∃ K : Nat, K = 3200 := ⟨_, rfl⟩
    rw [← hK]
    refine blen_iff.2 (Nat.lt_of_lt_of_le lim_len_pow ?_)
    rw [show (4294967296 : Nat) = 2 ^ 32 from rfl, ← Nat.pow_mul]
    exact Nat.pow_le_pow_right (by omega) (by omega)
  generalize hBB : blen a = B at *
  have hK : a < 2 ^ ((B + 1) / 2) * 2 ^ ((B + 1) / 2) := by
    rw [← Nat.pow_add]
    exact Nat.lt_of_lt_of_le hb (Nat.pow_le_pow_right (by omega) (by omega))
  have tq : ((B : Int) + 1).tdiv 2 = (((B + 1) / 2 : Nat) : Int) := _root_.id rfl
  have tq2 : ((B + 1 : Nat) : Int).tdiv 2 = (((B + 1) / 2 : Nat) : Int) := _root_.id rfl
  refine Go.Ev.Fn.intro (fn := Tryz.f210) (body := (Tryz.f210).body.get!) (by kernel_rfl) (by kernel_rfl) (by kernel_rfl) (fun _ => rfl) (Nat.le_of_ble_eq_true (by kernel_rfl)) ?_; unfold Tryz.f210; simp only [Option.get!_some]
  repeat (first | (simp only [go_sem, Nat.reduceEqDiff, Nat.reduceAdd, Nat.reduceSub, Nat.reduceMul, Nat.reduceLeDiff, Nat.reduceLT, reduceIte, reduceCtorEq, Nat.succ_ne_zero, elemsC, Int.reduceToNat, Nat.reducePow, tq, tq2]) | (simp (disch := (first | omega | (simp only [AL, List.length_map]; omega))) only [AR, AL, ifT, ifF, take_all, List.length_cons, List.length_nil, Int.reduceToNat, Int.reducePow, Nat.reducePow, tq, tq2]) | (refine wk_intro (by kernel_rfl) ?_) | (refine vf_of (by first | exact b) ?_))
  refine vp_loop_inv (fun s => s.tmp 0 = .sv (natV (lim a)) ∧ ∃ k r : Nat, k ≤ 1602 ∧ s.tmp 4 = .sv (.int .i64 ((k : Int) - 1)) ∧ (s.tmp 3 = .sv (natV (lim r)) ∨ r = 0 ∧ s.tmp 3 = .nil) ∧ r * r ≤ a ∧ a < (r + 2 ^ k) * (r + 2 ^ k))
    (fun s => match s.tmp 4 with | .sv (.int _ i) => (i + 1).toNat | _ => 0) ?_ ?_
  · refine ⟨rfl, (B + 1) / 2 + 1, 0, by omega, by rw [show ((((B + 1) / 2 + 1 : Nat) : Int) - 1) = (((B + 1) / 2 : Nat) : Int) by omega]; rfl, .inr ⟨rfl, rfl⟩, by omega, ?_⟩
    rw [Nat.zero_add, Nat.pow_succ]
    have := Nat.mul_le_mul (Nat.le_mul_of_pos_right (2 ^ ((B + 1) / 2)) (show 0 < 2 by omega)) (Nat.le_mul_of_pos_right (2 ^ ((B + 1) / 2)) (show 0 < 2 by omega))
    omega
  rintro s ⟨i0, k, r, hk, i4, i3, g1, g2⟩
  rcases Nat.eq_zero_or_pos k with h0 | h0
  · subst h0
    obtain rfl := rtN_eq g1 g2
    rcases i3 with i3 | ⟨e, i3⟩
    · repeat (first | (simp only [go_sem, Nat.reduceEqDiff, Nat.reduceAdd, Nat.reduceSub, Nat.reduceMul, Nat.reduceLeDiff, Nat.reduceLT, reduceIte, reduceCtorEq, Nat.succ_ne_zero, elemsC, Int.reduceToNat, Nat.reducePow, i0, i4, i3]) | (simp (disch := (first | omega | (simp only [AL, List.length_map]; omega))) only [AR, AL, ifT, ifF, take_all, List.length_cons, List.length_nil, Int.reduceToNat, Int.reducePow, Nat.reducePow, i0, i4, i3]) | (refine wk_intro (by kernel_rfl) ?_))
    · rw [e, lim_zero]
      repeat (first | (simp only [go_sem, Nat.reduceEqDiff, Nat.reduceAdd, Nat.reduceSub, Nat.reduceMul, Nat.reduceLeDiff, Nat.reduceLT, reduceIte, reduceCtorEq, Nat.succ_ne_zero, elemsC, Int.reduceToNat, Nat.reducePow, i0, i4, i3]) | (simp (disch := (first | omega | (simp only [AL, List.length_map]; omega))) only [AR, AL, ifT, ifF, take_all, List.length_cons, List.length_nil, Int.reduceToNat, Int.reducePow, Nat.reducePow, i0, i4, i3]) | (refine wk_intro (by kernel_rfl) ?_))
      rfl
  · obtain ⟨j, rfl⟩ : ∃ j, k = j + 1 := ⟨k - 1, by omega⟩
    have p := ref4_pow2 (n := j) (by omega)
    have l := lim_len_shl (a := 1) (n := j)
    have l1 := lim_len1
    rw [Nat.one_mul] at l
    have lr : (lim r).length ≤ 100 := Nat.le_trans (lim_len_mono (by rcases Nat.eq_zero_or_pos r with e | e; (omega); (have := Nat.le_mul_of_pos_left r e; omega))) h
    have s1 := ref1_AddL (N := r) (D := 2 ^ j) (by omega) (by omega)
    have l2 := lim_len_add (a := r) (b := 2 ^ j) (L := 200) (by omega) (by omega)
    have m := ref1_MulL (N := r + 2 ^ j) (D := r + 2 ^ j) (by omega) (by omega)
    have l3 := lim_len_mul (a := r + 2 ^ j) (b := r + 2 ^ j)
    have c := ref1_CmpL (N := (r + 2 ^ j) * (r + 2 ^ j)) (D := a) (by omega) (by omega)
    have e1 : decide (cmpN ((r + 2 ^ j) * (r + 2 ^ j)) a ≤ 0) = decide ((r + 2 ^ j) * (r + 2 ^ j) ≤ a) := decide_eq_decide.2 (by unfold cmpN; split <;> (try split) <;> omega)
    have e4 : ((j + 1 : Nat) : Int) - 1 = (j : Int) := by omega
    rw [e4] at i4
    generalize hz : cmpN ((r + 2 ^ j) * (r + 2 ^ j)) a = z at *
    by_cases hle : (r + 2 ^ j) * (r + 2 ^ j) ≤ a
    · rw [decide_eq_true hle] at e1
      rw [show r + 2 ^ (j + 1) = r + 2 ^ j + 2 ^ j by rw [Nat.pow_succ]; omega] at g2
      generalize hu : (r + 2 ^ j) * (r + 2 ^ j) = u at *
      generalize hv : r + 2 ^ j = v at *
      generalize hw : (v + 2 ^ j) * (v + 2 ^ j) = w at *
      rcases i3 with i3 | ⟨e, i3⟩
      · repeat (first | (simp only [go_sem, Nat.reduceEqDiff, Nat.reduceAdd, Nat.reduceSub, Nat.reduceMul, Nat.reduceLeDiff, Nat.reduceLT, reduceIte, reduceCtorEq, Nat.succ_ne_zero, elemsC, Int.reduceToNat, Nat.reducePow, i0, i4, i3]) | (simp (disch := (first | omega | (simp only [AL, List.length_map]; omega))) only [AR, AL, ifT, ifF, take_all, List.length_cons, List.length_nil, Int.reduceToNat, Int.reducePow, Nat.reducePow, i0, i4, i3]) | (refine wk_intro (by kernel_rfl) ?_))
        repeat (first | (simp only [go_sem, Nat.reduceEqDiff, Nat.reduceAdd, Nat.reduceSub, Nat.reduceMul, Nat.reduceLeDiff, Nat.reduceLT, reduceIte, reduceCtorEq, Nat.succ_ne_zero, elemsC, Int.reduceToNat, Nat.reducePow, i0, i4, i3, e1]) | (simp (disch := (first | omega | (simp only [AL, List.length_map]; omega))) only [AR, AL, ifT, ifF, take_all, List.length_cons, List.length_nil, Int.reduceToNat, Int.reducePow, Nat.reducePow, i0, i4, i3, e1]) | (refine wk_intro (by kernel_rfl) ?_) | (refine vf_of (by first | exact p | exact s1 | exact m | exact c) ?_))
        exact ⟨⟨j, v, by omega, by first | rfl | (congr 2; omega), .inl rfl, by rw [hu]; exact hle, by rw [hw]; exact g2⟩, by omega⟩
      · subst e
        rw [lim_zero] at s1
        repeat (first | (simp only [go_sem, Nat.reduceEqDiff, Nat.reduceAdd, Nat.reduceSub, Nat.reduceMul, Nat.reduceLeDiff, Nat.reduceLT, reduceIte, reduceCtorEq, Nat.succ_ne_zero, elemsC, Int.reduceToNat, Nat.reducePow, i0, i4, i3, e1]) | (simp (disch := (first | omega | (simp only [AL, List.length_map]; omega))) only [AR, AL, ifT, ifF, take_all, List.length_cons, List.length_nil, Int.reduceToNat, Int.reducePow, Nat.reducePow, i0, i4, i3, e1]) | (refine wk_intro (by kernel_rfl) ?_) | (refine vf_of (by first | exact p | exact s1 | exact m | exact c) ?_))
        exact ⟨⟨j, v, by omega, by first | rfl | (congr 2; omega), .inl rfl, by rw [hu]; exact hle, by rw [hw]; exact g2⟩, by omega⟩
    · rw [decide_eq_false hle] at e1
      generalize hu : (r + 2 ^ j) * (r + 2 ^ j) = u at *
      generalize hv : r + 2 ^ j = v at *
      rcases i3 with i3 | ⟨e, i3⟩
      · repeat (first | (simp only [go_sem, Nat.reduceEqDiff, Nat.reduceAdd, Nat.reduceSub, Nat.reduceMul, Nat.reduceLeDiff, Nat.reduceLT, reduceIte, reduceCtorEq, Nat.succ_ne_zero, elemsC, Int.reduceToNat, Nat.reducePow, i0, i4, i3]) | (simp (disch := (first | omega | (simp only [AL, List.length_map]; omega))) only [AR, AL, ifT, ifF, take_all, List.length_cons, List.length_nil, Int.reduceToNat, Int.reducePow, Nat.reducePow, i0, i4, i3]) | (refine wk_intro (by kernel_rfl) ?_))
        repeat (first | (simp only [go_sem, Nat.reduceEqDiff, Nat.reduceAdd, Nat.reduceSub, Nat.reduceMul, Nat.reduceLeDiff, Nat.reduceLT, reduceIte, reduceCtorEq, Nat.succ_ne_zero, elemsC, Int.reduceToNat, Nat.reducePow, i0, i4, i3, e1]) | (simp (disch := (first | omega | (simp only [AL, List.length_map]; omega))) only [AR, AL, ifT, ifF, take_all, List.length_cons, List.length_nil, Int.reduceToNat, Int.reducePow, Nat.reducePow, i0, i4, i3, e1]) | (refine wk_intro (by kernel_rfl) ?_) | (refine vf_of (by first | exact p | exact s1 | exact m | exact c) ?_))
        exact ⟨⟨j, r, by omega, by first | rfl | (congr 2; omega), .inl (by first | rfl | exact i3), g1, by rw [hv, hu]; omega⟩, by omega⟩
      · subst e
        rw [lim_zero] at s1
        repeat (first | (simp only [go_sem, Nat.reduceEqDiff, Nat.reduceAdd, Nat.reduceSub, Nat.reduceMul, Nat.reduceLeDiff, Nat.reduceLT, reduceIte, reduceCtorEq, Nat.succ_ne_zero, elemsC, Int.reduceToNat, Nat.reducePow, i0, i4, i3, e1]) | (simp (disch := (first | omega | (simp only [AL, List.length_map]; omega))) only [AR, AL, ifT, ifF, take_all, List.length_cons, List.length_nil, Int.reduceToNat, Int.reducePow, Nat.reducePow, i0, i4, i3, e1]) | (refine wk_intro (by kernel_rfl) ?_) | (refine vf_of (by first | exact p | exact s1 | exact m | exact c) ?_))
        exact ⟨⟨j, 0, by omega, by first | rfl | (congr 2; omega), .inr (by first | rfl | exact ⟨rfl, rfl⟩ | exact ⟨rfl, i3⟩), g1, by rw [hv, hu]; omega⟩, by omega⟩
theorem ref4_Sqrt {a b w : Nat} (ha : (lim a).length ≤ 60) (hb : (lim b).length ≤ 60) (hw : w ≤ 1000) : Go.Ev.Fn CX 171 [ivV (a : Int) (b : Int), .int .i64 (w : Int)] (ivV (rtN (a * 2 ^ w) : Int) ((rtN (b * 2 ^ w) + 1 : Nat) : Int)) := by
  have s1 := ref1_shl (N := a) (m := w) (by omega) (by omega)
  have s2 := ref1_shl (N := b) (m := w) (by omega) (by omega)
  have l1 := lim_len_shl (a := a) (n := w)
  have l2 := lim_len_shl (a := b) (n := w)
  have r1 := ref4_root (a := a * 2 ^ w) (by omega)
  have r2 := ref4_root (a := b * 2 ^ w) (by omega)
  have o := ref4_Whole 1 (by omega)
  have l3 := lim_len_mono (rtN_self (b * 2 ^ w))
  have l4 : (lim (rtN (b * 2 ^ w) : Int).natAbs).length ≤ 1000 := by rw [Int.natAbs_natCast]; omega
  have p := ref4_Plus (rtN (b * 2 ^ w) : Int) 1 (by omega) (Nat.le_trans lim_len1 (by omega))
  have q : ∀ n : Nat, intV (n : Int) = .agg [.bool false, natV (lim n)] := fun n => iv_eq (Int.natAbs_natCast n) (decide_eq_false (by omega))
  rw [show ((rtN (b * 2 ^ w) : Int) + 1) = ((rtN (b * 2 ^ w) + 1 : Nat) : Int) from rfl, q, q] at p
  have qq : ∀ m n : Nat, ivV (m : Int) (n : Int) = .agg [.bool false, natV (lim m), .bool false, natV (lim n)] := fun m n => by
    show SV.agg [.bool (decide ((m : Int) < 0)), natV (lim (m : Int).natAbs), .bool (decide ((n : Int) < 0)), natV (lim (n : Int).natAbs)] = _
    rw [Int.natAbs_natCast, Int.natAbs_natCast, decide_eq_false (by omega), decide_eq_false (by omega)]
  rw [qq, qq]
  generalize rtN (b * 2 ^ w) + 1 = y at *
  generalize rtN (b * 2 ^ w) = z at *
  generalize rtN (a * 2 ^ w) = x at *
  generalize a * 2 ^ w = u at *
  generalize b * 2 ^ w = v at *
  refine Go.Ev.Fn.intro (fn := Tryz.f171) (body := (Tryz.f171).body.get!) (by kernel_rfl) (by kernel_rfl) (by kernel_rfl) (fun _ => rfl) (Nat.le_of_ble_eq_true (by kernel_rfl)) ?_; unfold Tryz.f171; simp only [Option.get!_some]
  repeat (first | (simp only [go_sem, Nat.reduceEqDiff, Nat.reduceAdd, Nat.reduceSub, Nat.reduceMul, Nat.reduceLeDiff, Nat.reduceLT, reduceIte, reduceCtorEq, Nat.succ_ne_zero, elemsC, Int.reduceToNat, Nat.reducePow]) | (simp (disch := (first | omega | (simp only [AL, List.length_map]; omega))) only [AR, AL, ifT, ifF, take_all, List.length_cons, List.length_nil, Int.reduceToNat, Int.reducePow, Nat.reducePow]) | (refine wk_intro (by kernel_rfl) ?_) | (refine vp_draw (id := 1) (l := [7, 9, 14, 16]) (by kernel_rfl) ?_) | (refine vf_of (by first | exact s1 | exact r1 | exact s2 | exact r2 | exact o | exact p) ?_))
end Go.Proofs.YtecjelnpmcnbaaaGreat
namespace Go.Proofs.YtecjelnpmcnbaaaGreat
open Go.Ev
def mnZ (m x : Int) : Int := if x < m then x else m
def mxZ (m x : Int) : Int := if m < x then x else m
def loP (p1 p2 p3 p4 : Int) : Nat → Int
  | 0 => p1
  | 1 => p1
  | 2 => mnZ p1 p2
  | 3 => mnZ (mnZ p1 p2) p3
  | _ => mnZ (mnZ (mnZ p1 p2) p3) p4
def hiP (p1 p2 p3 p4 : Int) : Nat → Int
  | 0 => p1
  | 1 => p1
  | 2 => mxZ p1 p2
  | 3 => mxZ (mxZ p1 p2) p3
  | _ => mxZ (mxZ (mxZ p1 p2) p3) p4
def loQ (a b c d : Int) : Int := loP (a * c) (a * d) (b * c) (b * d) 4
def hiQ (a b c d : Int) : Int := hiP (a * c) (a * d) (b * c) (b * d) 4
theorem cmpZ_lt {a b : Int} : decide (cmpZ a b < 0) = decide (a < b) := decide_eq_decide.2 (by unfold cmpZ; split <;> (try split) <;> omega)
theorem cmpZ_gt {a b : Int} : decide (cmpZ a b > 0) = decide (b < a) := decide_eq_decide.2 (by unfold cmpZ; split <;> (try split) <;> omega)
theorem cmpZ_le {a b : Int} : decide (cmpZ a b ≤ 0) = decide (a ≤ b) := decide_eq_decide.2 (by unfold cmpZ; split <;> (try split) <;> omega)
theorem mnZ_is (m x : Int) : mnZ m x = m ∨ mnZ m x = x := by unfold mnZ; split <;> simp
theorem loP_is (p1 p2 p3 p4 : Int) (i : Nat) : loP p1 p2 p3 p4 i = p1 ∨ loP p1 p2 p3 p4 i = p2 ∨ loP p1 p2 p3 p4 i = p3 ∨ loP p1 p2 p3 p4 i = p4 := by
  have h2 := mnZ_is p1 p2
  have h3 := mnZ_is (mnZ p1 p2) p3
  have h4 := mnZ_is (mnZ (mnZ p1 p2) p3) p4
  match i with
  | 0 => exact .inl rfl
  | 1 => exact .inl rfl
  | 2 => show mnZ p1 p2 = _ ∨ mnZ p1 p2 = _ ∨ mnZ p1 p2 = _ ∨ mnZ p1 p2 = _; omega
  | 3 => simp only [loP]; omega
  | _ + 4 => simp only [loP]; omega
theorem mxZ_is (m x : Int) : mxZ m x = m ∨ mxZ m x = x := by unfold mxZ; split <;> simp
theorem hiP_is (p1 p2 p3 p4 : Int) (i : Nat) : hiP p1 p2 p3 p4 i = p1 ∨ hiP p1 p2 p3 p4 i = p2 ∨ hiP p1 p2 p3 p4 i = p3 ∨ hiP p1 p2 p3 p4 i = p4 := by
  have h2 := mxZ_is p1 p2
  have h3 := mxZ_is (mxZ p1 p2) p3
  have h4 := mxZ_is (mxZ (mxZ p1 p2) p3) p4
  match i with
  | 0 => exact .inl rfl
  | 1 => exact .inl rfl
  | 2 => show mxZ p1 p2 = _ ∨ mxZ p1 p2 = _ ∨ mxZ p1 p2 = _ ∨ mxZ p1 p2 = _; omega
  | 3 => simp only [hiP]; omega
  | _ + 4 => simp only [hiP]; omega
set_option maxHeartbeats 1000000 in
theorem ref4_Prod {a b c d : Int} {w : Nat} (ha : (lim a.natAbs).length ≤ 10000) (hb : (lim b.natAbs).length ≤ 10000) (hc : (lim c.natAbs).length ≤ 10000) (hd : (lim d.natAbs).length ≤ 10000) (hw : w ≤ 4096) (h0 : 0 < w) :
    Go.Ev.Fn CX 136 [ivV a b, ivV c d, .int .i64 (w : Int)] (ivV (loQ a b c d / ((2 ^ w : Nat) : Int)) (cdZ (hiQ a b c d) (2 ^ w))) := by
  have m1 := ref4_Times a c (by omega) (by omega)
  have m2 := ref4_Times a d (by omega) (by omega)
  have m3 := ref4_Times b c (by omega) (by omega)
  have m4 := ref4_Times b d (by omega) (by omega)
  have l1 : (lim (a * c).natAbs).length ≤ 20000 := by rw [Int.natAbs_mul]; have := lim_len_mul (a := a.natAbs) (b := c.natAbs); omega
  have l2 : (lim (a * d).natAbs).length ≤ 20000 := by rw [Int.natAbs_mul]; have := lim_len_mul (a := a.natAbs) (b := d.natAbs); omega
  have l3 : (lim (b * c).natAbs).length ≤ 20000 := by rw [Int.natAbs_mul]; have := lim_len_mul (a := b.natAbs) (b := c.natAbs); omega
  have l4 : (lim (b * d).natAbs).length ≤ 20000 := by rw [Int.natAbs_mul]; have := lim_len_mul (a := b.natAbs) (b := d.natAbs); omega
  unfold loQ hiQ
  generalize a * c = p1 at *
  generalize a * d = p2 at *
  generalize b * c = p3 at *
  generalize b * d = p4 at *
  have lL : ∀ i, (lim (loP p1 p2 p3 p4 i).natAbs).length ≤ 20000 := by
    intro i
    rcases loP_is p1 p2 p3 p4 i with h | h | h | h <;> rw [h] <;> assumption
  have lH : ∀ i, (lim (hiP p1 p2 p3 p4 i).natAbs).length ≤ 20000 := by
    intro i
    rcases hiP_is p1 p2 p3 p4 i with h | h | h | h <;> rw [h] <;> assumption
  have s1 := ref4_Less (loP p1 p2 p3 p4 4) w (by have := lL 4; omega) hw h0
  have s2 := ref4_More (hiP p1 p2 p3 p4 4) w (by have := lH 4; omega) hw h0
  have L1 : loP p1 p2 p3 p4 1 = p1 := rfl
  have H1 : hiP p1 p2 p3 p4 1 = p1 := rfl
  have L2 : loP p1 p2 p3 p4 2 = mnZ (loP p1 p2 p3 p4 1) p2 := rfl
  have H2 : hiP p1 p2 p3 p4 2 = mxZ (hiP p1 p2 p3 p4 1) p2 := rfl
  have L3 : loP p1 p2 p3 p4 3 = mnZ (loP p1 p2 p3 p4 2) p3 := rfl
  have H3 : hiP p1 p2 p3 p4 3 = mxZ (hiP p1 p2 p3 p4 2) p3 := rfl
  have L4 : loP p1 p2 p3 p4 4 = mnZ (loP p1 p2 p3 p4 3) p4 := rfl
  have H4 : hiP p1 p2 p3 p4 4 = mxZ (hiP p1 p2 p3 p4 3) p4 := rfl
  generalize loP p1 p2 p3 p4 = lo at *
  generalize hiP p1 p2 p3 p4 = hi at *
  generalize hX : lo 4 / ((2 ^ w : Nat) : Int) = X at *
  generalize hY : cdZ (hi 4) (2 ^ w) = Y at *
  clear hX hY ha hb hc hd
  refine Go.Ev.Fn.intro (fn := Tryz.f136) (body := (Tryz.f136).body.get!) (by kernel_rfl) (by kernel_rfl) (by kernel_rfl) (fun _ => rfl) (Nat.le_of_ble_eq_true (by kernel_rfl)) ?_; unfold Tryz.f136; simp only [Option.get!_some]
  repeat (first | (simp only [go_sem, Nat.reduceEqDiff, Nat.reduceAdd, Nat.reduceSub, Nat.reduceMul, Nat.reduceLeDiff, Nat.reduceLT, reduceIte, reduceCtorEq, Nat.succ_ne_zero, elemsC, Int.reduceToNat, Nat.reducePow]) | (simp (disch := (first | omega | (simp only [AL, List.length_map]; omega))) only [AR, AL, ifT, ifF, take_all, List.length_cons, List.length_nil, Int.reduceToNat, Int.reducePow, Nat.reducePow]) | (refine wk_intro (by kernel_rfl) ?_) | (refine vp_draw (id := 1) (l := []) (by kernel_rfl) ?_) | (refine vp_draw (id := 2) (l := []) (by kernel_rfl) ?_) | (refine vp_draw (id := 6) (l := []) (by kernel_rfl) ?_) | (refine vp_draw (id := 8) (l := []) (by kernel_rfl) ?_) | (refine vp_draw (id := 10) (l := []) (by kernel_rfl) ?_) | (refine vf_of (by first | exact m1 | exact m2 | exact m3 | exact m4) ?_))
  refine vp_loop_inv (fun s => s.tmp 2 = .sv (.int .i64 (w : Int)) ∧ s.tmp 6 = .ptr 6 0 0 ∧ s.obj 6 0 = some [.bool false, .sl 0 [], .bool false, .sl 0 []] ∧ s.tmp 7 = .sv (.sl 4 [.bool (decide (p1 < 0)), natV (lim p1.natAbs), .bool (decide (p2 < 0)), natV (lim p2.natAbs), .bool (decide (p3 < 0)), natV (lim p3.natAbs), .bool (decide (p4 < 0)), natV (lim p4.natAbs)]) ∧ s.tmp 8 = .ptr 8 0 0 ∧ s.tmp 9 = .ptr 9 0 0 ∧
      ∃ i : Nat, s.tmp 10 = .sv (.int .i64 (i : Int)) ∧ 1 ≤ i ∧ i ≤ 4 ∧ s.obj 8 0 = some [.bool (decide (lo i < 0)), natV (lim (lo i).natAbs)] ∧ s.obj 9 0 = some [.bool (decide (hi i < 0)), natV (lim (hi i).natAbs)])
    (fun s => match s.tmp 10 with | .sv (.int _ i) => 4 - i.toNat | _ => 0) ⟨rfl, rfl, rfl, rfl, rfl, rfl, 1, rfl, by omega, by omega, by first | (rw [L1]; done) | (rw [L1]; rfl) | (rw [L1]; exact o8) | (rw [L1]; exact o9), by first | (rw [H1]; done) | (rw [H1]; rfl) | (rw [H1]; exact o8) | (rw [H1]; exact o9)⟩ ?_
  rintro s ⟨i2, i6, o6, i7, i8, i9, i, i10, g1, g2, o8, o9⟩
  obtain rfl | rfl | rfl | rfl : i = 4 ∨ i = 1 ∨ i = 2 ∨ i = 3 := by omega
  · repeat (first | (simp only [go_sem, Nat.reduceEqDiff, Nat.reduceAdd, Nat.reduceSub, Nat.reduceMul, Nat.reduceLeDiff, Nat.reduceLT, reduceIte, reduceCtorEq, Nat.succ_ne_zero, elemsC, Int.reduceToNat, Nat.reducePow, i2, i6, o6, i7, i8, i9, i10, o8, o9]) | (simp (disch := (first | omega | (simp only [AL, List.length_map]; omega))) only [AR, AL, ifT, ifF, take_all, List.length_cons, List.length_nil, Int.reduceToNat, Int.reducePow, Nat.reducePow, i2, i6, o6, i7, i8, i9, i10, o8, o9]) | (refine wk_intro (by kernel_rfl) ?_) | (refine vp_draw (id := 1) (l := []) (by kernel_rfl) ?_) | (refine vp_draw (id := 2) (l := []) (by kernel_rfl) ?_) | (refine vp_draw (id := 6) (l := []) (by kernel_rfl) ?_) | (refine vp_draw (id := 8) (l := []) (by kernel_rfl) ?_) | (refine vp_draw (id := 10) (l := []) (by kernel_rfl) ?_))
    repeat (first | (simp only [go_sem, Nat.reduceEqDiff, Nat.reduceAdd, Nat.reduceSub, Nat.reduceMul, Nat.reduceLeDiff, Nat.reduceLT, reduceIte, reduceCtorEq, Nat.succ_ne_zero, elemsC, Int.reduceToNat, Nat.reducePow, i2, i6, o6, i7, i8, i9, i10, o8, o9]) | (simp (disch := (first | omega | (simp only [AL, List.length_map]; omega))) only [AR, AL, ifT, ifF, take_all, List.length_cons, List.length_nil, Int.reduceToNat, Int.reducePow, Nat.reducePow, i2, i6, o6, i7, i8, i9, i10, o8, o9]) | (refine wk_intro (by kernel_rfl) ?_) | (refine vp_draw (id := 1) (l := []) (by kernel_rfl) ?_) | (refine vp_draw (id := 2) (l := []) (by kernel_rfl) ?_) | (refine vp_draw (id := 6) (l := []) (by kernel_rfl) ?_) | (refine vp_draw (id := 8) (l := []) (by kernel_rfl) ?_) | (refine vp_draw (id := 10) (l := []) (by kernel_rfl) ?_) | (refine vf_of (by first | exact s1 | exact s2) ?_))
  · have c1 := ref4_Cmp p2 (lo 1) (by omega) (by have := lL 1; omega)
    have c2 := ref4_Cmp p2 (hi 1) (by omega) (by have := lH 1; omega)
    have c3 := ref4_Cmp p2 (hi 1) (by omega) (by have := lH 1; omega)
    have e1 := cmpZ_lt (a := p2) (b := lo 1)
    have e2 := cmpZ_gt (a := p2) (b := hi 1)
    generalize cmpZ p2 (lo 1) = z1 at *
    generalize cmpZ p2 (hi 1) = z2 at *
    by_cases k1 : p2 < lo 1
    · rw [decide_eq_true k1] at e1
      rw [mnZ, if_pos k1] at L2
      by_cases k2 : hi 1 < p2
      · rw [decide_eq_true k2] at e2
        rw [mxZ, if_pos k2] at H2
        clear k1 k2
        repeat (first | (simp only [go_sem, Nat.reduceEqDiff, Nat.reduceAdd, Nat.reduceSub, Nat.reduceMul, Nat.reduceLeDiff, Nat.reduceLT, reduceIte, reduceCtorEq, Nat.succ_ne_zero, elemsC, Int.reduceToNat, Nat.reducePow, i2, i6, o6, i7, i8, i9, i10, o8, o9, e1, e2]) | (simp (disch := (first | omega | (simp only [AL, List.length_map]; omega))) only [AR, AL, ifT, ifF, take_all, List.length_cons, List.length_nil, Int.reduceToNat, Int.reducePow, Nat.reducePow, i2, i6, o6, i7, i8, i9, i10, o8, o9, e1, e2]) | (refine wk_intro (by kernel_rfl) ?_) | (refine vp_draw (id := 1) (l := []) (by kernel_rfl) ?_) | (refine vp_draw (id := 2) (l := []) (by kernel_rfl) ?_) | (refine vp_draw (id := 6) (l := []) (by kernel_rfl) ?_) | (refine vp_draw (id := 8) (l := []) (by kernel_rfl) ?_) | (refine vp_draw (id := 10) (l := []) (by kernel_rfl) ?_) | (refine vf_of (by first | exact c1 | exact c2) ?_))
        exact ⟨2, rfl, by omega, by omega, by first | (rw [L2]; done) | (rw [L2]; rfl) | (rw [L2]; exact o8) | (rw [L2]; exact o9), by first | (rw [H2]; done) | (rw [H2]; rfl) | (rw [H2]; exact o8) | (rw [H2]; exact o9)⟩
      · rw [decide_eq_false k2] at e2
        rw [mxZ, if_neg k2] at H2
        clear k1 k2
        repeat (first | (simp only [go_sem, Nat.reduceEqDiff, Nat.reduceAdd, Nat.reduceSub, Nat.reduceMul, Nat.reduceLeDiff, Nat.reduceLT, reduceIte, reduceCtorEq, Nat.succ_ne_zero, elemsC, Int.reduceToNat, Nat.reducePow, i2, i6, o6, i7, i8, i9, i10, o8, o9, e1, e2]) | (simp (disch := (first | omega | (simp only [AL, List.length_map]; omega))) only [AR, AL, ifT, ifF, take_all, List.length_cons, List.length_nil, Int.reduceToNat, Int.reducePow, Nat.reducePow, i2, i6, o6, i7, i8, i9, i10, o8, o9, e1, e2]) | (refine wk_intro (by kernel_rfl) ?_) | (refine vp_draw (id := 1) (l := []) (by kernel_rfl) ?_) | (refine vp_draw (id := 2) (l := []) (by kernel_rfl) ?_) | (refine vp_draw (id := 6) (l := []) (by kernel_rfl) ?_) | (refine vp_draw (id := 8) (l := []) (by kernel_rfl) ?_) | (refine vp_draw (id := 10) (l := []) (by kernel_rfl) ?_) | (refine vf_of (by first | exact c1 | exact c2) ?_))
        exact ⟨2, rfl, by omega, by omega, by first | (rw [L2]; done) | (rw [L2]; rfl) | (rw [L2]; exact o8) | (rw [L2]; exact o9), by first | (rw [H2]; done) | (rw [H2]; rfl) | (rw [H2]; exact o8) | (rw [H2]; exact o9)⟩
    · rw [decide_eq_false k1] at e1
      rw [mnZ, if_neg k1] at L2
      by_cases k2 : hi 1 < p2
      · rw [decide_eq_true k2] at e2
        rw [mxZ, if_pos k2] at H2
        clear k1 k2
        repeat (first | (simp only [go_sem, Nat.reduceEqDiff, Nat.reduceAdd, Nat.reduceSub, Nat.reduceMul, Nat.reduceLeDiff, Nat.reduceLT, reduceIte, reduceCtorEq, Nat.succ_ne_zero, elemsC, Int.reduceToNat, Nat.reducePow, i2, i6, o6, i7, i8, i9, i10, o8, o9, e1, e2]) | (simp (disch := (first | omega | (simp only [AL, List.length_map]; omega))) only [AR, AL, ifT, ifF, take_all, List.length_cons, List.length_nil, Int.reduceToNat, Int.reducePow, Nat.reducePow, i2, i6, o6, i7, i8, i9, i10, o8, o9, e1, e2]) | (refine wk_intro (by kernel_rfl) ?_) | (refine vp_draw (id := 1) (l := []) (by kernel_rfl) ?_) | (refine vp_draw (id := 2) (l := []) (by kernel_rfl) ?_) | (refine vp_draw (id := 6) (l := []) (by kernel_rfl) ?_) | (refine vp_draw (id := 8) (l := []) (by kernel_rfl) ?_) | (refine vp_draw (id := 10) (l := []) (by kernel_rfl) ?_) | (refine vf_of (by first | exact c1 | exact c2) ?_))
        exact ⟨2, rfl, by omega, by omega, by first | (rw [L2]; done) | (rw [L2]; rfl) | (rw [L2]; exact o8) | (rw [L2]; exact o9), by first | (rw [H2]; done) | (rw [H2]; rfl) | (rw [H2]; exact o8) | (rw [H2]; exact o9)⟩
      · rw [decide_eq_false k2] at e2
        rw [mxZ, if_neg k2] at H2
        clear k1 k2
        repeat (first | (simp only [go_sem, Nat.reduceEqDiff, Nat.reduceAdd, Nat.reduceSub, Nat.reduceMul, Nat.reduceLeDiff, Nat.reduceLT, reduceIte, reduceCtorEq, Nat.succ_ne_zero, elemsC, Int.reduceToNat, Nat.reducePow, i2, i6, o6, i7, i8, i9, i10, o8, o9, e1, e2]) | (simp (disch := (first | omega | (simp only [AL, List.length_map]; omega))) only [AR, AL, ifT, ifF, take_all, List.length_cons, List.length_nil, Int.reduceToNat, Int.reducePow, Nat.reducePow, i2, i6, o6, i7, i8, i9, i10, o8, o9, e1, e2]) | (refine wk_intro (by kernel_rfl) ?_) | (refine vp_draw (id := 1) (l := []) (by kernel_rfl) ?_) | (refine vp_draw (id := 2) (l := []) (by kernel_rfl) ?_) | (refine vp_draw (id := 6) (l := []) (by kernel_rfl) ?_) | (refine vp_draw (id := 8) (l := []) (by kernel_rfl) ?_) | (refine vp_draw (id := 10) (l := []) (by kernel_rfl) ?_) | (refine vf_of (by first | exact c1 | exact c2) ?_))
        exact ⟨2, rfl, by omega, by omega, by first | (rw [L2]; done) | (rw [L2]; rfl) | (rw [L2]; exact o8) | (rw [L2]; exact o9), by first | (rw [H2]; done) | (rw [H2]; rfl) | (rw [H2]; exact o8) | (rw [H2]; exact o9)⟩
  · have c1 := ref4_Cmp p3 (lo 2) (by omega) (by have := lL 2; omega)
    have c2 := ref4_Cmp p3 (hi 2) (by omega) (by have := lH 2; omega)
    have c3 := ref4_Cmp p3 (hi 2) (by omega) (by have := lH 2; omega)
    have e1 := cmpZ_lt (a := p3) (b := lo 2)
    have e2 := cmpZ_gt (a := p3) (b := hi 2)
    generalize cmpZ p3 (lo 2) = z1 at *
    generalize cmpZ p3 (hi 2) = z2 at *
    by_cases k1 : p3 < lo 2
    · rw [decide_eq_true k1] at e1
      rw [mnZ, if_pos k1] at L3
      by_cases k2 : hi 2 < p3
      · rw [decide_eq_true k2] at e2
        rw [mxZ, if_pos k2] at H3
        clear k1 k2
        repeat (first | (simp only [go_sem, Nat.reduceEqDiff, Nat.reduceAdd, Nat.reduceSub, Nat.reduceMul, Nat.reduceLeDiff, Nat.reduceLT, reduceIte, reduceCtorEq, Nat.succ_ne_zero, elemsC, Int.reduceToNat, Nat.reducePow, i2, i6, o6, i7, i8, i9, i10, o8, o9, e1, e2]) | (simp (disch := (first | omega | (simp only [AL, List.length_map]; omega))) only [AR, AL, ifT, ifF, take_all, List.length_cons, List.length_nil, Int.reduceToNat, Int.reducePow, Nat.reducePow, i2, i6, o6, i7, i8, i9, i10, o8, o9, e1, e2]) | (refine wk_intro (by kernel_rfl) ?_) | (refine vp_draw (id := 1) (l := []) (by kernel_rfl) ?_) | (refine vp_draw (id := 2) (l := []) (by kernel_rfl) ?_) | (refine vp_draw (id := 6) (l := []) (by kernel_rfl) ?_) | (refine vp_draw (id := 8) (l := []) (by kernel_rfl) ?_) | (refine vp_draw (id := 10) (l := []) (by kernel_rfl) ?_) | (refine vf_of (by first | exact c1 | exact c2) ?_))
        exact ⟨3, rfl, by omega, by omega, by first | (rw [L3]; done) | (rw [L3]; rfl) | (rw [L3]; exact o8) | (rw [L3]; exact o9), by first | (rw [H3]; done) | (rw [H3]; rfl) | (rw [H3]; exact o8) | (rw [H3]; exact o9)⟩
      · rw [decide_eq_false k2] at e2
        rw [mxZ, if_neg k2] at H3
        clear k1 k2
        repeat (first | (simp only [go_sem, Nat.reduceEqDiff, Nat.reduceAdd, Nat.reduceSub, Nat.reduceMul, Nat.reduceLeDiff, Nat.reduceLT, reduceIte, reduceCtorEq, Nat.succ_ne_zero, elemsC, Int.reduceToNat, Nat.reducePow, i2, i6, o6, i7, i8, i9, i10, o8, o9, e1, e2]) | (simp (disch := (first | omega | (simp only [AL, List.length_map]; omega))) only [AR, AL, ifT, ifF, take_all, List.length_cons, List.length_nil, Int.reduceToNat, Int.reducePow, Nat.reducePow, i2, i6, o6, i7, i8, i9, i10, o8, o9, e1, e2]) | (refine wk_intro (by kernel_rfl) ?_) | (refine vp_draw (id := 1) (l := []) (by kernel_rfl) ?_) | (refine vp_draw (id := 2) (l := []) (by kernel_rfl) ?_) | (refine vp_draw (id := 6) (l := []) (by kernel_rfl) ?_) | (refine vp_draw (id := 8) (l := []) (by kernel_rfl) ?_) | (refine vp_draw (id := 10) (l := []) (by kernel_rfl) ?_) | (refine vf_of (by first | exact c1 | exact c2) ?_))
        exact ⟨3, rfl, by omega, by omega, by first | (rw [L3]; done) | (rw [L3]; rfl) | (rw [L3]; exact o8) | (rw [L3]; exact o9), by first | (rw [H3]; done) | (rw [H3]; rfl) | (rw [H3]; exact o8) | (rw [H3]; exact o9)⟩
    · rw [decide_eq_false k1] at e1
      rw [mnZ, if_neg k1] at L3
      by_cases k2 : hi 2 < p3
      · rw [decide_eq_true k2] at e2
        rw [mxZ, if_pos k2] at H3
        clear k1 k2
        repeat (first | (simp only [go_sem, Nat.reduceEqDiff, Nat.reduceAdd, Nat.reduceSub, Nat.reduceMul, Nat.reduceLeDiff, Nat.reduceLT, reduceIte, reduceCtorEq, Nat.succ_ne_zero, elemsC, Int.reduceToNat, Nat.reducePow, i2, i6, o6, i7, i8, i9, i10, o8, o9, e1, e2]) | (simp (disch := (first | omega | (simp only [AL, List.length_map]; omega))) only [AR, AL, ifT, ifF, take_all, List.length_cons, List.length_nil, Int.reduceToNat, Int.reducePow, Nat.reducePow, i2, i6, o6, i7, i8, i9, i10, o8, o9, e1, e2]) | (refine wk_intro (by kernel_rfl) ?_) | (refine vp_draw (id := 1) (l := []) (by kernel_rfl) ?_) | (refine vp_draw (id := 2) (l := []) (by kernel_rfl) ?_) | (refine vp_draw (id := 6) (l := []) (by kernel_rfl) ?_) | (refine vp_draw (id := 8) (l := []) (by kernel_rfl) ?_) | (refine vp_draw (id := 10) (l := []) (by kernel_rfl) ?_) | (refine vf_of (by first | exact c1 | exact c2) ?_))
        exact ⟨3, rfl, by omega, by omega, by first | (rw [L3]; done) | (rw [L3]; rfl) | (rw [L3]; exact o8) | (rw [L3]; exact o9), by first | (rw [H3]; done) | (rw [H3]; rfl) | (rw [H3]; exact o8) | (rw [H3]; exact o9)⟩
      · rw [decide_eq_false k2] at e2
        rw [mxZ, if_neg k2] at H3
        clear k1 k2
        repeat (first | (simp only [go_sem, Nat.reduceEqDiff, Nat.reduceAdd, Nat.reduceSub, Nat.reduceMul, Nat.reduceLeDiff, Nat.reduceLT, reduceIte, reduceCtorEq, Nat.succ_ne_zero, elemsC, Int.reduceToNat, Nat.reducePow, i2, i6, o6, i7, i8, i9, i10, o8, o9, e1, e2]) | (simp (disch := (first | omega | (simp only [AL, List.length_map]; omega))) only [AR, AL, ifT, ifF, take_all, List.length_cons, List.length_nil, Int.reduceToNat, Int.reducePow, Nat.reducePow, i2, i6, o6, i7, i8, i9, i10, o8, o9, e1, e2]) | (refine wk_intro (by kernel_rfl) ?_) | (refine vp_draw (id := 1) (l := []) (by kernel_rfl) ?_) | (refine vp_draw (id := 2) (l := []) (by kernel_rfl) ?_) | (refine vp_draw (id := 6) (l := []) (by kernel_rfl) ?_) | (refine vp_draw (id := 8) (l := []) (by kernel_rfl) ?_) | (refine vp_draw (id := 10) (l := []) (by kernel_rfl) ?_) | (refine vf_of (by first | exact c1 | exact c2) ?_))
        exact ⟨3, rfl, by omega, by omega, by first | (rw [L3]; done) | (rw [L3]; rfl) | (rw [L3]; exact o8) | (rw [L3]; exact o9), by first | (rw [H3]; done) | (rw [H3]; rfl) | (rw [H3]; exact o8) | (rw [H3]; exact o9)⟩
  · have c1 := ref4_Cmp p4 (lo 3) (by omega) (by have := lL 3; omega)
    have c2 := ref4_Cmp p4 (hi 3) (by omega) (by have := lH 3; omega)
    have c3 := ref4_Cmp p4 (hi 3) (by omega) (by have := lH 3; omega)
    have e1 := cmpZ_lt (a := p4) (b := lo 3)
    have e2 := cmpZ_gt (a := p4) (b := hi 3)
    generalize cmpZ p4 (lo 3) = z1 at *
    generalize cmpZ p4 (hi 3) = z2 at *
    by_cases k1 : p4 < lo 3
    · rw [decide_eq_true k1] at e1
      rw [mnZ, if_pos k1] at L4
      by_cases k2 : hi 3 < p4
      · rw [decide_eq_true k2] at e2
        rw [mxZ, if_pos k2] at H4
        clear k1 k2
        repeat (first | (simp only [go_sem, Nat.reduceEqDiff, Nat.reduceAdd, Nat.reduceSub, Nat.reduceMul, Nat.reduceLeDiff, Nat.reduceLT, reduceIte, reduceCtorEq, Nat.succ_ne_zero, elemsC, Int.reduceToNat, Nat.reducePow, i2, i6, o6, i7, i8, i9, i10, o8, o9, e1, e2]) | (simp (disch := (first | omega | (simp only [AL, List.length_map]; omega))) only [AR, AL, ifT, ifF, take_all, List.length_cons, List.length_nil, Int.reduceToNat, Int.reducePow, Nat.reducePow, i2, i6, o6, i7, i8, i9, i10, o8, o9, e1, e2]) | (refine wk_intro (by kernel_rfl) ?_) | (refine vp_draw (id := 1) (l := []) (by kernel_rfl) ?_) | (refine vp_draw (id := 2) (l := []) (by kernel_rfl) ?_) | (refine vp_draw (id := 6) (l := []) (by kernel_rfl) ?_) | (refine vp_draw (id := 8) (l := []) (by kernel_rfl) ?_) | (refine vp_draw (id := 10) (l := []) (by kernel_rfl) ?_) | (refine vf_of (by first | exact c1 | exact c2) ?_))
        exact ⟨4, rfl, by omega, by omega, by first | (rw [L4]; done) | (rw [L4]; rfl) | (rw [L4]; exact o8) | (rw [L4]; exact o9), by first | (rw [H4]; done) | (rw [H4]; rfl) | (rw [H4]; exact o8) | (rw [H4]; exact o9)⟩
      · rw [decide_eq_false k2] at e2
        rw [mxZ, if_neg k2] at H4
        clear k1 k2
        repeat (first | (simp only [go_sem, Nat.reduceEqDiff, Nat.reduceAdd, Nat.reduceSub, Nat.reduceMul, Nat.reduceLeDiff, Nat.reduceLT, reduceIte, reduceCtorEq, Nat.succ_ne_zero, elemsC, Int.reduceToNat, Nat.reducePow, i2, i6, o6, i7, i8, i9, i10, o8, o9, e1, e2]) | (simp (disch := (first | omega | (simp only [AL, List.length_map]; omega))) only [AR, AL, ifT, ifF, take_all, List.length_cons, List.length_nil, Int.reduceToNat, Int.reducePow, Nat.reducePow, i2, i6, o6, i7, i8, i9, i10, o8, o9, e1, e2]) | (refine wk_intro (by kernel_rfl) ?_) | (refine vp_draw (id := 1) (l := []) (by kernel_rfl) ?_) | (refine vp_draw (id := 2) (l := []) (by kernel_rfl) ?_) | (refine vp_draw (id := 6) (l := []) (by kernel_rfl) ?_) | (refine vp_draw (id := 8) (l := []) (by kernel_rfl) ?_) | (refine vp_draw (id := 10) (l := []) (by kernel_rfl) ?_) | (refine vf_of (by first | exact c1 | exact c2) ?_))
        exact ⟨4, rfl, by omega, by omega, by first | (rw [L4]; done) | (rw [L4]; rfl) | (rw [L4]; exact o8) | (rw [L4]; exact o9), by first | (rw [H4]; done) | (rw [H4]; rfl) | (rw [H4]; exact o8) | (rw [H4]; exact o9)⟩
    · rw [decide_eq_false k1] at e1
      rw [mnZ, if_neg k1] at L4
      by_cases k2 : hi 3 < p4
      · rw [decide_eq_true k2] at e2
        rw [mxZ, if_pos k2] at H4
        clear k1 k2
        repeat (first | (simp only [go_sem, Nat.reduceEqDiff, Nat.reduceAdd, Nat.reduceSub, Nat.reduceMul, Nat.reduceLeDiff, Nat.reduceLT, reduceIte, reduceCtorEq, Nat.succ_ne_zero, elemsC, Int.reduceToNat, Nat.reducePow, i2, i6, o6, i7, i8, i9, i10, o8, o9, e1, e2]) | (simp (disch := (first | omega | (simp only [AL, List.length_map]; omega))) only [AR, AL, ifT, ifF, take_all, List.length_cons, List.length_nil, Int.reduceToNat, Int.reducePow, Nat.reducePow, i2, i6, o6, i7, i8, i9, i10, o8, o9, e1, e2]) | (refine wk_intro (by kernel_rfl) ?_) | (refine vp_draw (id := 1) (l := []) (by kernel_rfl) ?_) | (refine vp_draw (id := 2) (l := []) (by kernel_rfl) ?_) | (refine vp_draw (id := 6) (l := []) (by kernel_rfl) ?_) | (refine vp_draw (id := 8) (l := []) (by kernel_rfl) ?_) | (refine vp_draw (id := 10) (l := []) (by kernel_rfl) ?_) | (refine vf_of (by first | exact c1 | exact c2) ?_))
        exact ⟨4, rfl, by omega, by omega, by first | (rw [L4]; done) | (rw [L4]; rfl) | (rw [L4]; exact o8) | (rw [L4]; exact o9), by first | (rw [H4]; done) | (rw [H4]; rfl) | (rw [H4]; exact o8) | (rw [H4]; exact o9)⟩
      · rw [decide_eq_false k2] at e2
        rw [mxZ, if_neg k2] at H4
        clear k1 k2
        repeat (first | (simp only [go_sem, Nat.reduceEqDiff, Nat.reduceAdd, Nat.reduceSub, Nat.reduceMul, Nat.reduceLeDiff, Nat.reduceLT, reduceIte, reduceCtorEq, Nat.succ_ne_zero, elemsC, Int.reduceToNat, Nat.reducePow, i2, i6, o6, i7, i8, i9, i10, o8, o9, e1, e2]) | (simp (disch := (first | omega | (simp only [AL, List.length_map]; omega))) only [AR, AL, ifT, ifF, take_all, List.length_cons, List.length_nil, Int.reduceToNat, Int.reducePow, Nat.reducePow, i2, i6, o6, i7, i8, i9, i10, o8, o9, e1, e2]) | (refine wk_intro (by kernel_rfl) ?_) | (refine vp_draw (id := 1) (l := []) (by kernel_rfl) ?_) | (refine vp_draw (id := 2) (l := []) (by kernel_rfl) ?_) | (refine vp_draw (id := 6) (l := []) (by kernel_rfl) ?_) | (refine vp_draw (id := 8) (l := []) (by kernel_rfl) ?_) | (refine vp_draw (id := 10) (l := []) (by kernel_rfl) ?_) | (refine vf_of (by first | exact c1 | exact c2) ?_))
        exact ⟨4, rfl, by omega, by omega, by first | (rw [L4]; done) | (rw [L4]; rfl) | (rw [L4]; exact o8) | (rw [L4]; exact o9), by first | (rw [H4]; done) | (rw [H4]; rfl) | (rw [H4]; exact o8) | (rw [H4]; exact o9)⟩
end Go.Proofs.YtecjelnpmcnbaaaGreat
