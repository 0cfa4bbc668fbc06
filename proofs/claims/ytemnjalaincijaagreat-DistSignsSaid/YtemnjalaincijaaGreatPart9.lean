/- Part 9 of the proof: the evaluator, contracts of functions and their plain laws (joined by program). No condition. -/
import Derived.Test.YtemnjalaincijaaGreatPart8
/- root: Int, whole, Square, Sqrt, Of, in the evaluator. -/
namespace Go.Proofs.YtemnjalaincijaaGreat
set_option linter.unusedSimpArgs false
set_option linter.unusedVariables false
set_option maxRecDepth 8000
open Go.Ev
theorem four_mul_le (x y : Nat) : 4 * (x * y) ≤ (x + y) * (x + y) := by
  rcases Nat.le_total x y with h | h
  · obtain ⟨k, rfl⟩ := Nat.exists_eq_add_of_le h
    have : (x + (x + k)) * (x + (x + k)) = 4 * (x * (x + k)) + k * k := by grind
    omega
  · obtain ⟨k, rfl⟩ := Nat.exists_eq_add_of_le h
    have : (y + k + y) * (y + k + y) = 4 * ((y + k) * y) + k * k := by grind
    omega
/-- A step of the root's loop stays above the root. -/
theorem newton_up {a x : Nat} (hx : 0 < x) : a < ((x + a / x) / 2 + 1) * ((x + a / x) / 2 + 1) := by
  have h1 : a < x * (a / x + 1) := by
    have := Nat.div_add_mod a x
    have := Nat.mod_lt a hx
    rw [Nat.mul_add, Nat.mul_one]; omega
  have h2 := four_mul_le x (a / x + 1)
  generalize a / x = q at *
  have h3 : x + (q + 1) ≤ 2 * ((x + q) / 2 + 1) := by omega
  have h4 := Nat.mul_le_mul h3 h3
  generalize (x + q) / 2 + 1 = m at *
  have h5 : 2 * m * (2 * m) = 4 * (m * m) := by grind
  omega
theorem newton_stop {a x : Nat} (hx : 0 < x) (h : x ≤ (x + a / x) / 2) : x * x ≤ a := by
  have h1 : x ≤ a / x := by omega
  have h2 := Nat.mul_le_mul_left x h1
  have h3 := Nat.mul_div_le a x
  omega
def vN (v : SV) : Nat := match decV v with
  | some xs => wth xs
  | none => 0
theorem vN_lim {x : Nat} (h : (lim x).length ≤ 1073741824) : vN (natV (lim x)) = x := by
  unfold vN
  rw [decV_nat (okL_lim x) h]
  exact wth_lim x
theorem lim_p32 (n : Nat) : lim (4294967296 ^ n) = List.replicate n 0 ++ [1] := by
  have h := lim_unique (xs := List.replicate n 0 ++ [1]) (okL_append.2 ⟨okL_replicate _, by simp [okL]⟩) (.inr ⟨_, 1, rfl, by decide⟩)
  rw [wth_append, wth_replicate, List.length_replicate, Nat.zero_add, show wth [1] = 1 from rfl, Nat.mul_one] at h
  exact h.symm
theorem set_last (n : Nat) : ((List.replicate (n + 1) 0).set n 1 : List Nat) = List.replicate n 0 ++ [1] := by
  rw [List.replicate_succ', List.set_append_right _ _ (by simp), List.length_replicate, Nat.sub_self]
  rfl
set_option maxHeartbeats 1000000 in
theorem root_Int {a : Nat} (h : (lim a).length ≤ 1000) : Go.Ev.Fn CX 212 [natV (lim a)] (natV (lim (rtN a))) := by
  have b := nat_Bits (N := a) (by omega)
  have hb : a < 2 ^ blen a := blen_iff.1 (Nat.le_refl _)
  by_cases h0 : a = 0
  · subst h0
    have e : rtN 0 = 0 := (rtN_eq (a := 0) (r := 0) (by omega) (by omega)).symm
    rw [e, lim_zero]
    rw [lim_zero, show blen 0 = 0 from rfl] at b
    refine Go.Ev.Fn.intro (fn := Tryz.f212) (body := (Tryz.f212).body.get!) (by kernel_rfl) (by kernel_rfl) (by kernel_rfl) (fun _ => rfl) (Nat.le_of_ble_eq_true (by kernel_rfl)) ?_; unfold Tryz.f212; simp only [Option.get!_some]
    repeat (first | (simp only [go_sem, Nat.reduceEqDiff, Nat.reduceAdd, Nat.reduceSub, Nat.reduceMul, Nat.reduceLeDiff, Nat.reduceLT, reduceIte, reduceCtorEq, Nat.succ_ne_zero, elemsC, Int.reduceToNat, Nat.reducePow]) | (simp (disch := (first | omega | (simp only [AL, List.length_map]; omega))) only [AR, AL, ifT, ifF, take_all, List.length_cons, List.length_nil, Int.reduceToNat, Int.reducePow, Nat.reducePow]) | (refine wk_intro (by kernel_rfl) ?_) | (refine vf_of (by first | exact b) ?_))
    rfl
  have hB0 : blen a ≠ 0 := fun e => by rw [e] at hb; omega
  have hBl : blen a ≤ 32000 := by
    obtain ⟨K, hK⟩ : ∃ K : Nat, K = 32000 := ⟨_, rfl⟩
    rw [← hK]
    refine blen_iff.2 (Nat.lt_of_lt_of_le lim_len_pow ?_)
    rw [show (4294967296 : Nat) = 2 ^ 32 from rfl, ← Nat.pow_mul]
    exact Nat.pow_le_pow_right (by omega) (by omega)
  generalize blen a = B at *
  have ha0 : a < 4294967296 ^ (B / 64 + 1) * 4294967296 ^ (B / 64 + 1) := by
    refine Nat.lt_of_lt_of_le hb ?_
    rw [← Nat.pow_add, show (4294967296 : Nat) = 2 ^ 32 from rfl, ← Nat.pow_mul]
    exact Nat.pow_le_pow_right (by omega) (by omega)
  have l0 := lim_p32 (B / 64 + 1)
  have hn : B / 64 + 1 ≤ 501 := by omega
  have tq : (B : Int).tdiv 64 = ((B / 64 : Nat) : Int) := _root_.id rfl
  have sl := set_last (B / 64 + 1)
  rw [← l0] at sl
  have x0pos : 0 < 4294967296 ^ (B / 64 + 1) := Nat.pow_pos (by omega)
  have ll : (lim (4294967296 ^ (B / 64 + 1))).length = B / 64 + 2 := by rw [l0]; simp
  have wp := wth_lim (4294967296 ^ (B / 64 + 1))
  generalize 4294967296 ^ (B / 64 + 1) = x0 at *
  -- one round
  have round : ∀ x, 0 < x → (lim x).length ≤ 1000 → Go.Ev.Fn CX 174 [natV (lim a), natV (lim x)] (.tup [natV (lim (a / x)), natV (lim (a % x)), .bool true]) ∧ Go.Ev.Fn CX 154 [natV (lim x), natV (lim (a / x))] (natV (lim (x + a / x))) ∧
      Go.Ev.Fn CX 179 [natV (lim (x + a / x)), .int .i64 (-1)] (natV (lim ((x + a / x) / 2))) ∧ Go.Ev.Fn CX 205 [natV (lim ((x + a / x) / 2)), natV (lim x)] (.int .i64 (cmpN ((x + a / x) / 2) x)) := by
    intro x hx hl
    have l1 := lim_len_mono (Nat.div_le_self a x)
    have l2 := lim_len_add (a := x) (b := a / x) (L := 1000) (by omega) (by omega)
    have l3 := lim_len_mono (Nat.div_le_self (x + a / x) 2)
    have s := nat_shr (N := x + a / x) (m := 1) (by omega) (by omega) (by omega)
    rw [Nat.pow_one] at s
    exact ⟨nat_DivL (by omega) (by omega) (by omega), nat_AddL (by omega) (by omega), s, nat_CmpL (by omega) (by omega)⟩
  have tr : ∀ x, (lim x).length ≤ 1000 → Go.Ev.Fn CX 172 [natV (lim x)] (natV (lim x)) := by
    intro x hl
    have := nat_Trim (lim x) (okL_lim x) (by omega)
    rwa [wth_lim] at this
  have tn : (((B / 64 : Nat) : Int) + 2).toNat = B / 64 + 2 := by omega
  refine Go.Ev.Fn.intro (fn := Tryz.f212) (body := (Tryz.f212).body.get!) (by kernel_rfl) (by kernel_rfl) (by kernel_rfl) (fun _ => rfl) (Nat.le_of_ble_eq_true (by kernel_rfl)) ?_; unfold Tryz.f212; simp only [Option.get!_some]
  repeat (first | (simp only [go_sem, Nat.reduceEqDiff, Nat.reduceAdd, Nat.reduceSub, Nat.reduceMul, Nat.reduceLeDiff, Nat.reduceLT, reduceIte, reduceCtorEq, Nat.succ_ne_zero, elemsC, Int.reduceToNat, Nat.reducePow, tq, tn]) | (simp (disch := (first | omega | (simp only [AL, List.length_map]; omega))) only [AR, AL, ifT, ifF, take_all, List.length_cons, List.length_nil, Int.reduceToNat, Int.reducePow, Nat.reducePow, tq, tn]) | (refine wk_intro (by kernel_rfl) ?_) | (refine vf_of (by first | exact b) ?_))
  have hstep : ∀ x, 0 < x → a < (x + 1) * (x + 1) → ∀ y, y = (x + a / x) / 2 → ¬ x ≤ y → 0 < y ∧ a < (y + 1) * (y + 1) ∧ y < x := by
    rintro x hx - y rfl hxy
    have := newton_up (a := a) hx
    refine ⟨?_, this, by omega⟩
    rcases Nat.eq_zero_or_pos ((x + a / x) / 2) with e | e
    · rw [e] at this; omega
    · exact e
  refine vp_loop_inv (fun s => s.tmp 0 = .sv (natV (lim a)) ∧ ∃ x : Nat, 0 < x ∧ (lim x).length ≤ 600 ∧ x ≤ x0 ∧ a < (x + 1) * (x + 1) ∧ (s.tmp 3 = .sv (natV (lim x)) ∨ x = x0 ∧ s.tmp 3 = .ref 15 0 1 0 (B / 64 + 2) ∧ s.obj 15 0 = some ((lim x0).map limb)))
    (fun s => match s.tmp 3 with | .sv v => vN v | _ => x0 + 1) ?_ ?_
  · refine ⟨rfl, x0, x0pos, by omega, Nat.le_refl _, by have := Nat.mul_le_mul (show x0 ≤ x0 + 1 by omega) (show x0 ≤ x0 + 1 by omega); omega, .inr ⟨rfl, by first | rfl | (rw [← tn]; rfl), ?_⟩⟩
    refine (?_ : some (List.map limb (List.take (B / 64 + 2 - 1) (List.replicate (B / 64 + 2) 0)) ++ [SV.int IntKind.u32 1] ++ List.map limb (List.drop (B / 64 + 2 - 1 + 1) (List.replicate (B / 64 + 2) 0))) = _)
    rw [l0, List.take_replicate, List.drop_replicate, Nat.min_eq_left (by omega), show B / 64 + 2 - (B / 64 + 2 - 1 + 1) = 0 by omega, show B / 64 + 2 - 1 = B / 64 + 1 by omega, List.map_append, List.replicate_zero, List.map_nil, List.append_nil]
    rfl
  rintro s ⟨i0, x, hx, lx, hxx, hax, i3⟩
  obtain ⟨r1, r2, r3, r4⟩ := round x hx (by omega)
  have hst := hstep x hx hax _ rfl
  have e1 : decide (cmpN ((x + a / x) / 2) x ≥ 0) = decide (x ≤ (x + a / x) / 2) := decide_eq_decide.2 (by unfold cmpN; split <;> (try split) <;> omega)
  have hstop := newton_stop (a := a) (x := x) hx
  have t1 := tr x (by omega)
  have l1 := lim_len_mono (Nat.div_le_self (x + a / x) 2)
  generalize (x + a / x) / 2 = y at *
  generalize x + a / x = u at *
  generalize a / x = q at *
  generalize cmpN y x = z at *
  rcases i3 with i3 | ⟨rfl, i3, o3⟩
  · by_cases hle : x ≤ y
    · rw [decide_eq_true hle] at e1
      obtain rfl := rtN_eq (hstop hle) hax
      repeat (first | (simp only [go_sem, Nat.reduceEqDiff, Nat.reduceAdd, Nat.reduceSub, Nat.reduceMul, Nat.reduceLeDiff, Nat.reduceLT, reduceIte, reduceCtorEq, Nat.succ_ne_zero, elemsC, Int.reduceToNat, Nat.reducePow, i0, i3, e1]) | (simp (disch := (first | omega | (simp only [AL, List.length_map]; omega))) only [AR, AL, ifT, ifF, take_all, List.length_cons, List.length_nil, Int.reduceToNat, Int.reducePow, Nat.reducePow, i0, i3, e1]) | (refine wk_intro (by kernel_rfl) ?_) | (refine vf_of (by first | exact r1 | exact r2 | exact r3 | exact r4 | exact t1) ?_))
    · rw [decide_eq_false hle] at e1
      obtain ⟨y1, y2, y3⟩ := hst hle
      repeat (first | (simp only [go_sem, Nat.reduceEqDiff, Nat.reduceAdd, Nat.reduceSub, Nat.reduceMul, Nat.reduceLeDiff, Nat.reduceLT, reduceIte, reduceCtorEq, Nat.succ_ne_zero, elemsC, Int.reduceToNat, Nat.reducePow, i0, i3, e1]) | (simp (disch := (first | omega | (simp only [AL, List.length_map]; omega))) only [AR, AL, ifT, ifF, take_all, List.length_cons, List.length_nil, Int.reduceToNat, Int.reducePow, Nat.reducePow, i0, i3, e1]) | (refine wk_intro (by kernel_rfl) ?_) | (refine vf_of (by first | exact r1 | exact r2 | exact r3 | exact r4) ?_))
      exact ⟨⟨y, y1, Nat.le_trans (lim_len_mono (Nat.le_of_lt y3)) lx, by omega, y2, .inl rfl⟩, by rw [vN_lim (by have := lim_len_mono (Nat.le_of_lt y3); omega), vN_lim (by omega)]; exact y3⟩
  · have hle : ¬ x ≤ y := fun g => by have := hstop g; have := ha0; omega
    rw [decide_eq_false hle] at e1
    obtain ⟨y1, y2, y3⟩ := hst hle
    have f1 : Go.Ev.Fn CX 174 [natV (lim a), .sl (B / 64 + 2) ((lim x).map limb)] (.tup [natV (lim q), natV (lim (a % x)), .bool true]) := by rw [← ll]; exact r1
    have f2 : Go.Ev.Fn CX 154 [.sl (B / 64 + 2) ((lim x).map limb), natV (lim q)] (natV (lim u)) := by rw [← ll]; exact r2
    have f4 : Go.Ev.Fn CX 205 [natV (lim y), .sl (B / 64 + 2) ((lim x).map limb)] (.int .i64 z) := by rw [← ll]; exact r4
    have hlm : ((lim x).map limb).length = B / 64 + 2 := by rw [List.length_map, ll]
    have htk : ((lim x).map limb).take (B / 64 + 2) = (lim x).map limb := List.take_of_length_le (by omega)
    generalize ((lim x).map limb) = cs at *
    repeat (first | (simp only [go_sem, Nat.reduceEqDiff, Nat.reduceAdd, Nat.reduceSub, Nat.reduceMul, Nat.reduceLeDiff, Nat.reduceLT, reduceIte, reduceCtorEq, Nat.succ_ne_zero, elemsC, Int.reduceToNat, Nat.reducePow, i0, i3, o3, htk, hlm, List.drop_zero, N0, Nat.mul_one, e1]) | (simp (disch := (first | omega | (simp only [AL, List.length_map]; omega))) only [AR, AL, ifT, ifF, take_all, List.length_cons, List.length_nil, Int.reduceToNat, Int.reducePow, Nat.reducePow, i0, i3, o3, htk, hlm, List.drop_zero, N0, Nat.mul_one, e1]) | (refine wk_intro (by kernel_rfl) ?_) | (refine vf_of (by first | exact f1 | exact f2 | exact r3 | exact f4) ?_))
    exact ⟨⟨y, y1, Nat.le_trans (lim_len_mono (Nat.le_of_lt y3)) lx, by omega, y2, .inl rfl⟩, by rw [vN_lim (by have := lim_len_mono (Nat.le_of_lt y3); omega)]; omega⟩
theorem root_whole {a : Nat} (h : (lim a).length ≤ 1000) : Go.Ev.Fn CX 226 [natV (lim a)] (.tup [natV (lim (rtN a)), .bool (decide (rtN a * rtN a = a))]) := by
  have r := root_Int h
  have l := lim_len_mono (rtN_self a)
  have m := nat_MulL (N := rtN a) (D := rtN a) (by omega) (by omega)
  have l2 := lim_len_mono (rtN_le a)
  have c := nat_CmpL (N := rtN a * rtN a) (D := a) (by omega) (by omega)
  have e : (cmpN (rtN a * rtN a) a == 0) = decide (rtN a * rtN a = a) := by
    rw [show (cmpN (rtN a * rtN a) a == 0) = decide (cmpN (rtN a * rtN a) a = 0) from by by_cases h : cmpN (rtN a * rtN a) a = 0 <;> simp [h]]
    exact decide_eq_decide.2 (by unfold cmpN; split <;> (try split) <;> omega)
  rw [← e]
  generalize cmpN (rtN a * rtN a) a = z at *
  generalize rtN a * rtN a = y at *
  generalize rtN a = x at *
  refine Go.Ev.Fn.intro (fn := Tryz.f226) (body := (Tryz.f226).body.get!) (by kernel_rfl) (by kernel_rfl) (by kernel_rfl) (fun _ => rfl) (Nat.le_of_ble_eq_true (by kernel_rfl)) ?_; unfold Tryz.f226; simp only [Option.get!_some]
  repeat (first | (simp only [go_sem, Nat.reduceEqDiff, Nat.reduceAdd, Nat.reduceSub, Nat.reduceMul, Nat.reduceLeDiff, Nat.reduceLT, reduceIte, reduceCtorEq, Nat.succ_ne_zero, elemsC, Int.reduceToNat, Nat.reducePow]) | (simp (disch := (first | omega | (simp only [AL, List.length_map]; omega))) only [AR, AL, ifT, ifF, take_all, List.length_cons, List.length_nil, Int.reduceToNat, Int.reducePow, Nat.reducePow]) | (refine wk_intro (by kernel_rfl) ?_) | (refine vf_of (by first | exact r | exact m | exact c) ?_))
theorem szR_nat {n d L : Nat} (hn : (lim n).length ≤ L) (hd : (lim d).length ≤ L) (hL : 1 ≤ L) : szR (mkRat (n : Int) d) L := szR_mk (s := false) hn hd hL
theorem natAbs_num {q : Rat} (h : 0 ≤ q) : (q.num.natAbs : Int) = q.num := Int.natAbs_of_nonneg (Rat.num_nonneg.2 h)
theorem mk_mulP (a : Int) {b : Nat} (hb : 0 < b) : mkRat a b * (b : Rat) = (a : Rat) := by
  rw [Rat.mkRat_eq_div]
  refine Rat.div_mul_cancel ?_
  have : (0 : Rat) < (b : Rat) := by exact_mod_cast hb
  grind
theorem num_den (q : Rat) : q * (q.den : Rat) = (q.num : Rat) := by
  have h := mk_mulP q.num q.den_pos
  rwa [Rat.mkRat_self] at h
theorem root_Square {v : SV} {q : Rat} {L : Nat} (hv : RatA v q L) (hq : 0 ≤ q) (hL1 : 1 ≤ L) (hL : L ≤ 1000) :
    Go.Ev.Fn CX 211 [v] (if rtN q.num.natAbs * rtN q.num.natAbs = q.num.natAbs ∧ rtN q.den * rtN q.den = q.den then .tup [rv (mkRat (rtN q.num.natAbs : Int) (rtN q.den)), .bool true] else .tup [rv 0, .bool false]) := by
  have n1 := rat_Norm hv (by omega)
  obtain ⟨z1, z2⟩ := szR_of hv hL1
  have w1 := root_whole (a := q.num.natAbs) (by omega)
  have w2 := root_whole (a := q.den) (by omega)
  have l1 := lim_len_mono (rtN_self q.num.natAbs)
  have l2 := lim_len_mono (rtN_self q.den)
  have o := rat_OfL (s := false) (n := rtN q.num.natAbs) (d := rtN q.den) (by omega) (by omega)
  rw [show sgn false (rtN q.num.natAbs) = (rtN q.num.natAbs : Int) from rfl] at o
  have r0 := rat_Int 0 (by omega)
  rw [show ((0 : Int) : Rat) = 0 from rfl] at r0
  have hs : decide (q.num < 0) = false := decide_eq_false (by have := Rat.num_nonneg.2 hq; omega)
  obtain ⟨s, n, d, rfl, -⟩ := hv
  generalize mkRat (rtN q.num.natAbs : Int) (rtN q.den) = r at *
  by_cases h1 : rtN q.num.natAbs * rtN q.num.natAbs = q.num.natAbs
  · rw [decide_eq_true h1] at w1
    by_cases h2 : rtN q.den * rtN q.den = q.den
    · rw [decide_eq_true h2] at w2
      rw [if_pos ⟨h1, h2⟩]
      clear h1 h2
      generalize rtN q.num.natAbs = x at *
      generalize rtN q.den = y at *
      refine Go.Ev.Fn.intro (fn := Tryz.f211) (body := (Tryz.f211).body.get!) (by kernel_rfl) (by kernel_rfl) (by kernel_rfl) (fun _ => rfl) (Nat.le_of_ble_eq_true (by kernel_rfl)) ?_; unfold Tryz.f211; simp only [Option.get!_some]
      repeat (first | (simp only [go_sem, Nat.reduceEqDiff, Nat.reduceAdd, Nat.reduceSub, Nat.reduceMul, Nat.reduceLeDiff, Nat.reduceLT, reduceIte, reduceCtorEq, Nat.succ_ne_zero, elemsC, Int.reduceToNat, Nat.reducePow, hs, Bool.not_true]) | (simp (disch := (first | omega | (simp only [AL, List.length_map]; omega))) only [AR, AL, ifT, ifF, take_all, List.length_cons, List.length_nil, Int.reduceToNat, Int.reducePow, Nat.reducePow, hs, Bool.not_true]) | (refine wk_intro (by kernel_rfl) ?_) | (refine vf_of (by first | exact n1 | exact w1 | exact w2 | exact o) ?_))
    · rw [decide_eq_false h2] at w2
      rw [if_neg (fun h => h2 h.2)]
      clear h1 h2
      generalize rtN q.num.natAbs = x at *
      generalize rtN q.den = y at *
      refine Go.Ev.Fn.intro (fn := Tryz.f211) (body := (Tryz.f211).body.get!) (by kernel_rfl) (by kernel_rfl) (by kernel_rfl) (fun _ => rfl) (Nat.le_of_ble_eq_true (by kernel_rfl)) ?_; unfold Tryz.f211; simp only [Option.get!_some]
      repeat (first | (simp only [go_sem, Nat.reduceEqDiff, Nat.reduceAdd, Nat.reduceSub, Nat.reduceMul, Nat.reduceLeDiff, Nat.reduceLT, reduceIte, reduceCtorEq, Nat.succ_ne_zero, elemsC, Int.reduceToNat, Nat.reducePow, hs, Bool.not_true, Bool.not_false]) | (simp (disch := (first | omega | (simp only [AL, List.length_map]; omega))) only [AR, AL, ifT, ifF, take_all, List.length_cons, List.length_nil, Int.reduceToNat, Int.reducePow, Nat.reducePow, hs, Bool.not_true, Bool.not_false]) | (refine wk_intro (by kernel_rfl) ?_) | (refine vf_of (by first | exact n1 | exact w1 | exact w2 | exact r0) ?_))
  · rw [decide_eq_false h1] at w1
    rw [if_neg (fun h => h1 h.1)]
    clear h1
    generalize rtN q.num.natAbs = x at *
    generalize hz : decide (rtN q.den * rtN q.den = q.den) = z at *
    generalize rtN q.den = y at *
    refine Go.Ev.Fn.intro (fn := Tryz.f211) (body := (Tryz.f211).body.get!) (by kernel_rfl) (by kernel_rfl) (by kernel_rfl) (fun _ => rfl) (Nat.le_of_ble_eq_true (by kernel_rfl)) ?_; unfold Tryz.f211; simp only [Option.get!_some]
    repeat (first | (simp only [go_sem, Nat.reduceEqDiff, Nat.reduceAdd, Nat.reduceSub, Nat.reduceMul, Nat.reduceLeDiff, Nat.reduceLT, reduceIte, reduceCtorEq, Nat.succ_ne_zero, elemsC, Int.reduceToNat, Nat.reducePow, hs, Bool.not_true, Bool.not_false]) | (simp (disch := (first | omega | (simp only [AL, List.length_map]; omega))) only [AR, AL, ifT, ifF, take_all, List.length_cons, List.length_nil, Int.reduceToNat, Int.reducePow, Nat.reducePow, hs, Bool.not_true, Bool.not_false]) | (refine wk_intro (by kernel_rfl) ?_) | (refine vf_of (by first | exact n1 | exact w1 | exact w2 | exact r0) ?_))
theorem nn_mul {a b : Nat} : ((a * b : Nat) : Rat) = (a : Rat) * (b : Rat) := by exact_mod_cast rfl
theorem nat_le_rat {a b : Nat} (h : a ≤ b) : (a : Rat) ≤ (b : Rat) := by exact_mod_cast h
theorem root_Sqrt {v : SV} {q : Rat} {L p : Nat} (hv : RatA v q L) (hq : 0 ≤ q) (hL1 : 1 ≤ L) (hL : L ≤ 300) (hp : p ≤ 512) :
    ∃ lo hi : Rat, Go.Ev.Fn CX 181 [v, .int .i64 (p : Int)] (.tup [ballR lo hi, .bool true]) ∧ 0 ≤ lo ∧ lo ≤ hi ∧ lo * lo ≤ q ∧ q ≤ hi * hi ∧ (hi - lo) * p2 p ≤ 1 ∧ szR lo (L + 40) ∧ szR hi (L + 40) := by
  have n1 := rat_Norm hv (by omega)
  obtain ⟨z1, z2⟩ := szR_of hv hL1
  have sq := root_Square (RatA_rv ⟨z1, z2⟩) hq hL1 (by omega)
  have l1 := lim_len_mono (rtN_self q.num.natAbs)
  have l2 := lim_len_mono (rtN_self q.den)
  have hs : decide (q.num < 0) = false := decide_eq_false (by have := Rat.num_nonneg.2 hq; omega)
  have e1 : (if (0 : Int) > (p : Int) then (0 : Int) else (p : Int)) = (p : Int) := if_neg (by omega)
  have e2 : (if (512 : Int) < (p : Int) then (512 : Int) else (p : Int)) = (p : Int) := if_neg (by omega)
  have qn := num_den q
  have qa : ((q.num.natAbs : Nat) : Rat) = (q.num : Rat) := by
    rw [← natAbs_num hq]; rfl
  have D := q.den_pos
  have DR : (0 : Rat) < (q.den : Rat) := by exact_mod_cast D
  have erv : rv q = ratV false (lim q.num.natAbs) (lim q.den) := by show ratV (decide (q.num < 0)) _ _ = _; rw [hs]
  rw [erv] at n1 sq
  by_cases h : rtN q.num.natAbs * rtN q.num.natAbs = q.num.natAbs ∧ rtN q.den * rtN q.den = q.den
  · rw [if_pos h] at sq
    have hd0 : 0 < rtN q.den := by
      rcases Nat.eq_zero_or_pos (rtN q.den) with e | e
      · have := h.2; rw [e] at this; omega
      · exact e
    have mm := mk_mulP (rtN q.num.natAbs : Int) hd0
    have YR : (0 : Rat) < (rtN q.den : Rat) := by exact_mod_cast hd0
    have x2 : ((rtN q.num.natAbs : Nat) : Rat) * ((rtN q.num.natAbs : Nat) : Rat) = (q.num : Rat) := by rw [← nn_mul, h.1, qa]
    have y2 : ((rtN q.den : Nat) : Rat) * ((rtN q.den : Nat) : Rat) = (q.den : Rat) := by rw [← nn_mul, h.2]
    have x0 := nat_nonneg (rtN q.num.natAbs)
    have mm' : mkRat (rtN q.num.natAbs : Int) (rtN q.den) * (rtN q.den : Rat) = ((rtN q.num.natAbs : Nat) : Rat) := mm
    have r0 : (0 : Rat) ≤ mkRat (rtN q.num.natAbs : Int) (rtN q.den) := le_by YR (by rw [mm', Rat.zero_mul]; exact x0)
    have rr : mkRat (rtN q.num.natAbs : Int) (rtN q.den) * mkRat (rtN q.num.natAbs : Int) (rtN q.den) = q := by
      generalize mkRat (rtN q.num.natAbs : Int) (rtN q.den) = r at *
      generalize ((rtN q.num.natAbs : Nat) : Rat) = X at *
      generalize ((rtN q.den : Nat) : Rat) = Y at *
      have e : (r * r - q) * (Y * Y) = 0 := by
        have e3 : (r * r - q) * (Y * Y) = (r * Y) * (r * Y) - q * (Y * Y) := by grind
        rw [e3, mm', x2, y2, qn, Rat.sub_self]
      rcases Rat.mul_eq_zero.1 e with g | g
      · grind
      · rw [y2] at g; grind
    have zz : szR (mkRat (rtN q.num.natAbs : Int) (rtN q.den)) L := szR_nat (by omega) (by omega) hL1
    have bo := ball_Of (RatA_rv zz) (by omega)
    refine ⟨_, _, ?_, r0, Rat.le_refl, by rw [rr]; exact Rat.le_refl, by rw [rr]; exact Rat.le_refl, by rw [Rat.sub_self, Rat.zero_mul]; decide, szR_mono zz (by omega), szR_mono zz (by omega)⟩
    clear rr r0 zz mm
    obtain ⟨s, n, d, rfl, -⟩ := hv
    generalize mkRat (rtN q.num.natAbs : Int) (rtN q.den) = r at *
    refine Go.Ev.Fn.intro (fn := Tryz.f181) (body := (Tryz.f181).body.get!) (by kernel_rfl) (by kernel_rfl) (by kernel_rfl) (fun _ => rfl) (Nat.le_of_ble_eq_true (by kernel_rfl)) ?_; unfold Tryz.f181; simp only [Option.get!_some]
    repeat (first | (simp only [go_sem, Nat.reduceEqDiff, Nat.reduceAdd, Nat.reduceSub, Nat.reduceMul, Nat.reduceLeDiff, Nat.reduceLT, reduceIte, reduceCtorEq, Nat.succ_ne_zero, elemsC, Int.reduceToNat, Nat.reducePow, hs, e1, e2]) | (simp (disch := (first | omega | (simp only [AL, List.length_map]; omega))) only [AR, AL, ifT, ifF, take_all, List.length_cons, List.length_nil, Int.reduceToNat, Int.reducePow, Nat.reducePow, hs, e1, e2]) | (refine wk_intro (by kernel_rfl) ?_) | (refine vp_draw (id := 8) (l := [32, 35, 37]) (by kernel_rfl) ?_) | (refine vf_of (by first | exact n1 | exact sq | exact bo) ?_))
  · rw [if_neg h] at sq
    clear h
    have s1 := nat_shl (N := q.num.natAbs) (m := 2 * p) (by omega) (by omega)
    have l3 := lim_len_shl (a := q.num.natAbs) (n := 2 * p)
    have dv := nat_DivL (N := q.num.natAbs * 2 ^ (2 * p)) (D := q.den) (by omega) (by omega) (by omega)
    have l4 := lim_len_mono (Nat.div_le_self (q.num.natAbs * 2 ^ (2 * p)) q.den)
    have rt := root_Int (a := q.num.natAbs * 2 ^ (2 * p) / q.den) (by omega)
    have l5 := lim_len_mono (rtN_self (q.num.natAbs * 2 ^ (2 * p) / q.den))
    have o1 := nat_Of 1 (by omega)
    have l1' := lim_len1
    have s2 := nat_shl (N := 1) (m := p) (by omega) (by omega)
    have l6 := lim_len_shl (a := 1) (n := p)
    rw [Nat.one_mul] at s2 l6
    have l7 := lim_len_add (a := rtN (q.num.natAbs * 2 ^ (2 * p) / q.den)) (b := 1) (L := L + 34) (by omega) (by omega)
    have ad := nat_AddL (N := rtN (q.num.natAbs * 2 ^ (2 * p) / q.den)) (D := 1) (by omega) (by omega)
    have f1 := rat_OfL (s := false) (n := rtN (q.num.natAbs * 2 ^ (2 * p) / q.den)) (d := 2 ^ p) (by omega) (by omega)
    have f2 := rat_OfL (s := false) (n := rtN (q.num.natAbs * 2 ^ (2 * p) / q.den) + 1) (d := 2 ^ p) (by omega) (by omega)
    have P : 0 < 2 ^ p := Nat.pow_pos (by omega)
    have g1 := rtN_le (q.num.natAbs * 2 ^ (2 * p) / q.den)
    have g2 := lt_rtN (q.num.natAbs * 2 ^ (2 * p) / q.den)
    have m1 := mk_mulP (rtN (q.num.natAbs * 2 ^ (2 * p) / q.den) : Int) P
    have m2 := mk_mulP ((rtN (q.num.natAbs * 2 ^ (2 * p) / q.den) + 1 : Nat) : Int) P
    refine ⟨_, _, ?_, ?_, ?_, ?_, ?_, ?_, szR_nat (n := rtN (q.num.natAbs * 2 ^ (2 * p) / q.den)) (d := 2 ^ p) (by omega) (by omega) (by omega), szR_nat (n := rtN (q.num.natAbs * 2 ^ (2 * p) / q.den) + 1) (d := 2 ^ p) (by omega) (by omega) (by omega)⟩
    · rw [show sgn false (rtN (q.num.natAbs * 2 ^ (2 * p) / q.den)) = (rtN (q.num.natAbs * 2 ^ (2 * p) / q.den) : Int) from rfl] at f1
      rw [show sgn false (rtN (q.num.natAbs * 2 ^ (2 * p) / q.den) + 1) = ((rtN (q.num.natAbs * 2 ^ (2 * p) / q.den) + 1 : Nat) : Int) from rfl] at f2
      clear g1 g2 m1 m2
      rw [show ((2 * p : Nat) : Int) = 2 * (p : Int) by omega] at s1
      obtain ⟨s, n, d, rfl, -⟩ := hv
      generalize mkRat (rtN (q.num.natAbs * 2 ^ (2 * p) / q.den) : Int) (2 ^ p) = r1 at *
      generalize mkRat ((rtN (q.num.natAbs * 2 ^ (2 * p) / q.den) + 1 : Nat) : Int) (2 ^ p) = r2 at *
      generalize rtN (q.num.natAbs * 2 ^ (2 * p) / q.den) + 1 = R1 at *
      generalize rtN (q.num.natAbs * 2 ^ (2 * p) / q.den) = R at *
      generalize q.num.natAbs * 2 ^ (2 * p) / q.den = u at *
      generalize q.num.natAbs * 2 ^ (2 * p) % q.den = u' at *
      generalize q.num.natAbs * 2 ^ (2 * p) = t at *
      generalize 2 ^ p = P' at *
      refine Go.Ev.Fn.intro (fn := Tryz.f181) (body := (Tryz.f181).body.get!) (by kernel_rfl) (by kernel_rfl) (by kernel_rfl) (fun _ => rfl) (Nat.le_of_ble_eq_true (by kernel_rfl)) ?_; unfold Tryz.f181; simp only [Option.get!_some]
      repeat (first | (simp only [go_sem, Nat.reduceEqDiff, Nat.reduceAdd, Nat.reduceSub, Nat.reduceMul, Nat.reduceLeDiff, Nat.reduceLT, reduceIte, reduceCtorEq, Nat.succ_ne_zero, elemsC, Int.reduceToNat, Nat.reducePow, hs, e1, e2]) | (simp (disch := (first | omega | (simp only [AL, List.length_map]; omega))) only [AR, AL, ifT, ifF, take_all, List.length_cons, List.length_nil, Int.reduceToNat, Int.reducePow, Nat.reducePow, hs, e1, e2]) | (refine wk_intro (by kernel_rfl) ?_) | (refine vp_draw (id := 8) (l := [32, 35, 37]) (by kernel_rfl) ?_) | (refine vf_of (by first | exact n1 | exact sq | exact s1 | exact dv | exact rt | exact o1 | exact s2 | exact f1 | exact ad | exact f2) ?_))
    all_goals
      have m1' : mkRat (rtN (q.num.natAbs * 2 ^ (2 * p) / q.den) : Int) (2 ^ p) * p2 p = ((rtN (q.num.natAbs * 2 ^ (2 * p) / q.den) : Nat) : Rat) := m1
      have m2' : mkRat ((rtN (q.num.natAbs * 2 ^ (2 * p) / q.den) + 1 : Nat) : Int) (2 ^ p) * p2 p = ((rtN (q.num.natAbs * 2 ^ (2 * p) / q.den) + 1 : Nat) : Rat) := m2
      have PR := p2_pos p
      have eS : ((rtN (q.num.natAbs * 2 ^ (2 * p) / q.den) + 1 : Nat) : Rat) = ((rtN (q.num.natAbs * 2 ^ (2 * p) / q.den) : Nat) : Rat) + 1 := by exact_mod_cast rfl
      have R0 := nat_nonneg (rtN (q.num.natAbs * 2 ^ (2 * p) / q.den))
    · exact le_by PR (by rw [Rat.zero_mul]; exact Rat.le_trans R0 (by rw [← m1']; exact Rat.le_refl))
    · refine le_by PR ?_
      show mkRat (rtN (q.num.natAbs * 2 ^ (2 * p) / q.den) : Int) (2 ^ p) * p2 p ≤ mkRat ((rtN (q.num.natAbs * 2 ^ (2 * p) / q.den) + 1 : Nat) : Int) (2 ^ p) * p2 p
      rw [m1', m2', eS]
      grind
    · show mkRat (rtN (q.num.natAbs * 2 ^ (2 * p) / q.den) : Int) (2 ^ p) * mkRat (rtN (q.num.natAbs * 2 ^ (2 * p) / q.den) : Int) (2 ^ p) ≤ q
      have a1 := nat_le_rat (Nat.mul_le_mul_right q.den g1)
      have a2 := nat_le_rat (Nat.div_mul_le_self (q.num.natAbs * 2 ^ (2 * p)) q.den)
      have a3 := Rat.le_trans a1 a2
      rw [show 2 ^ (2 * p) = 2 ^ p * 2 ^ p by rw [← Nat.pow_add]; congr 1; omega] at *
      rw [nn_mul, nn_mul, nn_mul, nn_mul, qa] at a3
      generalize mkRat (rtN (q.num.natAbs * (2 ^ p * 2 ^ p) / q.den) : Int) (2 ^ p) = r at *
      generalize ((rtN (q.num.natAbs * (2 ^ p * 2 ^ p) / q.den) : Nat) : Rat) = R at *
      have PP : (0 : Rat) < p2 p * p2 p * (q.den : Rat) := Rat.mul_pos (Rat.mul_pos PR PR) DR
      refine le_by PP ?_
      have e1 : r * r * (p2 p * p2 p * (q.den : Rat)) = (r * p2 p) * (r * p2 p) * (q.den : Rat) := by grind
      have e2 : q * (p2 p * p2 p * (q.den : Rat)) = q * (q.den : Rat) * (p2 p * p2 p) := by grind
      rw [e1, e2, m1', qn]
      exact a3
    · show q ≤ mkRat ((rtN (q.num.natAbs * 2 ^ (2 * p) / q.den) + 1 : Nat) : Int) (2 ^ p) * mkRat ((rtN (q.num.natAbs * 2 ^ (2 * p) / q.den) + 1 : Nat) : Int) (2 ^ p)
      have a1 := nat_le_rat (Nat.mul_le_mul_right q.den (show q.num.natAbs * 2 ^ (2 * p) / q.den + 1 ≤ _ from g2))
      have a2 := le_floor (a := q.num.natAbs * 2 ^ (2 * p)) (d := q.den) D
      rw [← nn_mul] at a2
      have a3 := Rat.le_trans a2 a1
      rw [show 2 ^ (2 * p) = 2 ^ p * 2 ^ p by rw [← Nat.pow_add]; congr 1; omega] at *
      rw [nn_mul, nn_mul, nn_mul, nn_mul, qa] at a3
      generalize mkRat ((rtN (q.num.natAbs * (2 ^ p * 2 ^ p) / q.den) + 1 : Nat) : Int) (2 ^ p) = r at *
      generalize ((rtN (q.num.natAbs * (2 ^ p * 2 ^ p) / q.den) + 1 : Nat) : Rat) = R at *
      have PP : (0 : Rat) < p2 p * p2 p * (q.den : Rat) := Rat.mul_pos (Rat.mul_pos PR PR) DR
      refine le_by PP ?_
      have e1 : r * r * (p2 p * p2 p * (q.den : Rat)) = (r * p2 p) * (r * p2 p) * (q.den : Rat) := by grind
      have e2 : q * (p2 p * p2 p * (q.den : Rat)) = q * (q.den : Rat) * (p2 p * p2 p) := by grind
      rw [e1, e2, m2', qn]
      exact a3
    · show (mkRat ((rtN (q.num.natAbs * 2 ^ (2 * p) / q.den) + 1 : Nat) : Int) (2 ^ p) - mkRat (rtN (q.num.natAbs * 2 ^ (2 * p) / q.den) : Int) (2 ^ p)) * p2 p ≤ 1
      have e : ∀ a b c : Rat, (a - b) * c = a * c - b * c := by intro a b c; grind
      rw [e, m1', m2', eS]
      grind
theorem root_Of {A B : Rat} {L p : Nat} (hA : 0 ≤ A) (hB : 0 ≤ B) (zA : szR A L) (zB : szR B L) (hL1 : 1 ≤ L) (hL : L ≤ 300) (hp : p ≤ 512) :
    ∃ lo lo' hi' hi : Rat, Go.Ev.Fn CX 147 [ballR A B, .int .i64 (p : Int)] (.tup [ballR lo hi, .bool true]) ∧ 0 ≤ lo ∧ lo ≤ lo' ∧ lo * lo ≤ A ∧ A ≤ lo' * lo' ∧ (lo' - lo) * p2 p ≤ 1 ∧
      0 ≤ hi' ∧ hi' ≤ hi ∧ hi' * hi' ≤ B ∧ B ≤ hi * hi ∧ (hi - hi') * p2 p ≤ 1 ∧ szR lo (L + 40) ∧ szR hi (L + 40) := by
  obtain ⟨a1, a2, f, g1, g2, g3, g4, g5, g6, g7⟩ := root_Sqrt (RatA_rv zA) hA hL1 hL hp
  obtain ⟨b1, b2, f', k1, k2, k3, k4, k5, k6, k7⟩ := root_Sqrt (RatA_rv zB) hB hL1 hL hp
  refine ⟨a1, a2, b1, b2, ?_, g1, g2, g3, g4, g5, k1, k2, k3, k4, k5, g6, k7⟩
  clear g1 g2 g3 g4 g5 k1 k2 k3 k4 k5
  refine Go.Ev.Fn.intro (fn := Tryz.f147) (body := (Tryz.f147).body.get!) (by kernel_rfl) (by kernel_rfl) (by kernel_rfl) (fun _ => rfl) (Nat.le_of_ble_eq_true (by kernel_rfl)) ?_; unfold Tryz.f147; simp only [Option.get!_some]
  repeat (first | (simp only [go_sem, Nat.reduceEqDiff, Nat.reduceAdd, Nat.reduceSub, Nat.reduceMul, Nat.reduceLeDiff, Nat.reduceLT, reduceIte, reduceCtorEq, Nat.succ_ne_zero, elemsC, Int.reduceToNat, Nat.reducePow, Bool.not_true]) | (simp (disch := (first | omega | (simp only [AL, List.length_map]; omega))) only [AR, AL, ifT, ifF, take_all, List.length_cons, List.length_nil, Int.reduceToNat, Int.reducePow, Nat.reducePow, Bool.not_true]) | (refine wk_intro (by kernel_rfl) ?_) | (refine vf_of (by first | exact f | exact f') ?_))
end Go.Proofs.YtemnjalaincijaaGreat

/- gam.Ball, in the evaluator. -/
namespace Go.Proofs.YtemnjalaincijaaGreat
set_option linter.unusedSimpArgs false
set_option linter.unusedVariables false
set_option maxRecDepth 8000
open Go.Ev
theorem mk_p2 (a p : Nat) : mkRat (a : Int) (2 ^ p) * p2 p = (a : Rat) := mk_mulP (a : Int) (Nat.pow_pos (by omega))
theorem many_pi {d : Nat} (h1 : 8 ≤ d) (h2 : d < 225) : ∃ m1 m2 : Rat, Go.Ev.Fn CX 149 [.int .i64 (d : Int)] (ballR m1 m2) ∧ m1 ≤ SQ * SQ ∧ SQ * SQ ≤ m2 ∧ (m2 - m1) * p2 d ≤ 1 ∧ 1 ≤ m1 ∧ szR m1 40 ∧ szR m2 40 := by
  obtain ⟨a, f, g1, g2⟩ := arcs_Pi h1 h2
  have P := p2_pos d
  have e1 := mk_p2 a d
  have e2 := mk_p2 (a + 1) d
  have k1 := sq_lo (by omega) g1
  have k2 := sq_hi (a := a + 1) (by omega) g2
  have k3 := sq_ge (by omega) g2
  have hA : a ≤ 2 ^ (d + 4) := by
    have x1 : rootPi * rootPi ≤ 2 ^ 804 := by decide +kernel
    have x2 : 2 ^ 804 = 2 ^ (d + 4) * 2 ^ (800 - d) := by rw [← Nat.pow_add]; congr 1; omega
    rw [x2] at x1
    exact Nat.le_of_mul_le_mul_right (Nat.le_trans g1 x1) (Nat.pow_pos (by omega))
  have hp : 2 ^ d ≤ 2 ^ (d + 4) := Nat.pow_le_pow_right (by omega) (by omega)
  have hB : a + 1 ≤ 2 ^ (d + 5) := by
    have : 2 ^ (d + 5) = 2 ^ (d + 4) * 2 := by rw [← Nat.pow_succ]
    have := Nat.pow_pos (a := 2) (n := d + 4) (by omega)
    omega
  have lp := lim_len_p2 hp (by omega)
  have la := lim_len_p2 hA (by omega)
  have lb := lim_len_p2 hB (by omega)
  refine ⟨_, _, f, le_by P (by rw [e1]; exact k1), le_by P (by rw [e2]; exact k2), ?_, le_by P (by rw [e1, Rat.one_mul]; exact n_le k3), szR_nat la lp (by omega), szR_nat lb lp (by omega)⟩
  have e : ∀ a b c : Rat, (a - b) * c = a * c - b * c := by intro a b c; grind
  rw [e, e1, e2]
  have : ((a + 1 : Nat) : Rat) = (a : Rat) + 1 := by exact_mod_cast rfl
  rw [this]
  grind
section
variable {v : SV} {q : Rat} {roots pI : Int} {P : Nat}
end
end Go.Proofs.YtemnjalaincijaaGreat

/- bell: isFar, held, share, fall, row, area, in the evaluator. -/
namespace Go.Proofs.YtemnjalaincijaaGreat
set_option linter.unusedSimpArgs false
set_option linter.unusedVariables false
set_option maxRecDepth 8000
open Go.Ev
set_option linter.unusedVariables false
section
variable {v : SV} {z : Rat} {L P w : Nat} {pI : Int}
theorem bell_far (hv : RatA v z L) (hL1 : 1 ≤ L) (hL : L ≤ 100) (h : z < -8 ∨ 8 < z) : Go.Ev.Fn CX 91 [v] (.bool true) := by
  have zx := szR_of hv hL1
  have im := rat_Int (-8) (by omega)
  have ip := rat_Int 8 (by omega)
  have c1 := rat_Cmp hv (RatA_rv (int_szR (n := -8) (by omega))) hL1 (by omega) (by omega)
  have c2 := rat_Cmp hv (RatA_rv (int_szR (n := 8) (by omega))) hL1 (by omega) (by omega)
  by_cases g : z < -8
  · have e1 : decide (cmpR z ((-8 : Int) : Rat) < 0) = true := by rw [cmpR_lt]; exact decide_eq_true g
    clear h
    obtain ⟨s, n, d, rfl, -⟩ := hv
    generalize cmpR z ((-8 : Int) : Rat) = y1 at *
    refine Go.Ev.Fn.intro (fn := Tryz.f91) (body := (Tryz.f91).body.get!) (by kernel_rfl) (by kernel_rfl) (by kernel_rfl) (fun _ => rfl) (Nat.le_of_ble_eq_true (by kernel_rfl)) ?_; unfold Tryz.f91; simp only [Option.get!_some]
    repeat (first | (simp only [go_sem, Nat.reduceEqDiff, Nat.reduceAdd, Nat.reduceSub, Nat.reduceMul, Nat.reduceLeDiff, Nat.reduceLT, reduceIte, reduceCtorEq, Nat.succ_ne_zero, elemsC, Int.reduceToNat, Nat.reducePow, e1]) | (simp (disch := (first | omega | (simp only [AL, List.length_map]; omega))) only [AR, AL, ifT, ifF, take_all, List.length_cons, List.length_nil, Int.reduceToNat, Int.reducePow, Nat.reducePow, e1]) | (refine wk_intro (by kernel_rfl) ?_) | (refine vp_draw (id := 1) (l := []) (by kernel_rfl) ?_) | (refine vf_of (by first | exact im | exact c1) ?_))
  · have e1 : decide (cmpR z ((-8 : Int) : Rat) < 0) = false := by rw [cmpR_lt]; exact decide_eq_false g
    have e2 : decide (cmpR z ((8 : Int) : Rat) > 0) = true := by rw [cmpR_gt]; exact decide_eq_true (h.resolve_left g)
    clear h
    obtain ⟨s, n, d, rfl, -⟩ := hv
    generalize cmpR z ((-8 : Int) : Rat) = y1 at *
    generalize cmpR z ((8 : Int) : Rat) = y2 at *
    refine Go.Ev.Fn.intro (fn := Tryz.f91) (body := (Tryz.f91).body.get!) (by kernel_rfl) (by kernel_rfl) (by kernel_rfl) (fun _ => rfl) (Nat.le_of_ble_eq_true (by kernel_rfl)) ?_; unfold Tryz.f91; simp only [Option.get!_some]
    repeat (first | (simp only [go_sem, Nat.reduceEqDiff, Nat.reduceAdd, Nat.reduceSub, Nat.reduceMul, Nat.reduceLeDiff, Nat.reduceLT, reduceIte, reduceCtorEq, Nat.succ_ne_zero, elemsC, Int.reduceToNat, Nat.reducePow, e1, e2]) | (simp (disch := (first | omega | (simp only [AL, List.length_map]; omega))) only [AR, AL, ifT, ifF, take_all, List.length_cons, List.length_nil, Int.reduceToNat, Int.reducePow, Nat.reducePow, e1, e2]) | (refine wk_intro (by kernel_rfl) ?_) | (refine vp_draw (id := 1) (l := []) (by kernel_rfl) ?_) | (refine vf_of (by first | exact im | exact c1 | exact ip | exact c2) ?_))
theorem bell_nigh (hv : RatA v z L) (hL1 : 1 ≤ L) (hL : L ≤ 100) (h1 : -8 ≤ z) (h2 : z ≤ 8) : Go.Ev.Fn CX 91 [v] (.bool false) := by
  have zx := szR_of hv hL1
  have im := rat_Int (-8) (by omega)
  have ip := rat_Int 8 (by omega)
  have c1 := rat_Cmp hv (RatA_rv (int_szR (n := -8) (by omega))) hL1 (by omega) (by omega)
  have c2 := rat_Cmp hv (RatA_rv (int_szR (n := 8) (by omega))) hL1 (by omega) (by omega)
  have e1 : decide (cmpR z ((-8 : Int) : Rat) < 0) = false := by rw [cmpR_lt]; exact decide_eq_false (Rat.not_lt.2 h1)
  have e2 : decide (cmpR z ((8 : Int) : Rat) > 0) = false := by rw [cmpR_gt]; exact decide_eq_false (Rat.not_lt.2 h2)
  obtain ⟨s, n, d, rfl, -⟩ := hv
  generalize cmpR z ((-8 : Int) : Rat) = y1 at *
  generalize cmpR z ((8 : Int) : Rat) = y2 at *
  refine Go.Ev.Fn.intro (fn := Tryz.f91) (body := (Tryz.f91).body.get!) (by kernel_rfl) (by kernel_rfl) (by kernel_rfl) (fun _ => rfl) (Nat.le_of_ble_eq_true (by kernel_rfl)) ?_; unfold Tryz.f91; simp only [Option.get!_some]
  repeat (first | (simp only [go_sem, Nat.reduceEqDiff, Nat.reduceAdd, Nat.reduceSub, Nat.reduceMul, Nat.reduceLeDiff, Nat.reduceLT, reduceIte, reduceCtorEq, Nat.succ_ne_zero, elemsC, Int.reduceToNat, Nat.reducePow, e1, e2]) | (simp (disch := (first | omega | (simp only [AL, List.length_map]; omega))) only [AR, AL, ifT, ifF, take_all, List.length_cons, List.length_nil, Int.reduceToNat, Int.reducePow, Nat.reducePow, e1, e2]) | (refine wk_intro (by kernel_rfl) ?_) | (refine vp_draw (id := 1) (l := []) (by kernel_rfl) ?_) | (refine vf_of (by first | exact im | exact c1 | exact ip | exact c2) ?_))
theorem bell_held (hpI : (pI ≤ 0 ∧ P = 0) ∨ pI = (P : Int)) (hP : P ≤ 200) : Go.Ev.Fn CX 93 [.int .i64 pI] (.int .i64 (P : Int)) := by
  have e1 : (if (0 : Int) > pI then (0 : Int) else pI) = (P : Int) := by split <;> omega
  have e2 : (if (200 : Int) < (P : Int) then (200 : Int) else (P : Int)) = (P : Int) := if_neg (by omega)
  refine Go.Ev.Fn.intro (fn := Tryz.f93) (body := (Tryz.f93).body.get!) (by kernel_rfl) (by kernel_rfl) (by kernel_rfl) (fun _ => rfl) (Nat.le_of_ble_eq_true (by kernel_rfl)) ?_; unfold Tryz.f93; simp only [Option.get!_some]
  repeat (first | (simp only [go_sem, Nat.reduceEqDiff, Nat.reduceAdd, Nat.reduceSub, Nat.reduceMul, Nat.reduceLeDiff, Nat.reduceLT, reduceIte, reduceCtorEq, Nat.succ_ne_zero, elemsC, Int.reduceToNat, Nat.reducePow, e1, e2]) | (simp (disch := (first | omega | (simp only [AL, List.length_map]; omega))) only [AR, AL, ifT, ifF, take_all, List.length_cons, List.length_nil, Int.reduceToNat, Int.reducePow, Nat.reducePow, e1, e2]) | (refine wk_intro (by kernel_rfl) ?_))
theorem unN_mk (m w : Nat) : unN (mkRat (m : Int) (2 ^ w)) w = m := by
  have P : 0 < 2 ^ w := Nat.pow_pos (by omega)
  obtain ⟨q, hq⟩ : ∃ q, q = mkRat (m : Int) (2 ^ w) := ⟨_, rfl⟩
  have e := mk_p2 m w
  rw [← hq] at e ⊢
  have q0 : 0 ≤ q := by
    refine le_by (p2_pos w) ?_
    rw [e, Rat.zero_mul]; exact nat_nonneg m
  have nn : 0 ≤ q.num := Rat.num_nonneg.2 q0
  have d := Ex.denR q
  have k : ((q.num.natAbs * 2 ^ w : Nat) : Rat) = ((m * q.den : Nat) : Rat) := by
    rw [Ex.castmul, Ex.castmul, ← e]
    have : ((q.num.natAbs : Nat) : Rat) = (q.num : Rat) := by
      have h : ((q.num.natAbs : Nat) : Rat) = ((q.num.natAbs : Int) : Rat) := rfl
      rw [h, Int.natAbs_of_nonneg nn]
    rw [this, ← d]; grind
  have k2 := Ex.nat_inj k
  show q.num.natAbs * 2 ^ w / q.den = m
  rw [k2]
  exact Nat.mul_div_cancel _ q.den_pos
theorem exps_Exp0 {pI : Int} (hv : RatA v 0 L) (hL : L ≤ 100) : Go.Ev.Fn CX 58 [v, .int .i64 pI] (.tup [ballR 1 1, .bool true]) := by
  have n1 := rat_Norm hv (by omega)
  have im := rat_Int (-64) (by omega)
  have ip := rat_Int 64 (by omega)
  have i1 := rat_Int 1 (by omega)
  have z0 : szR 0 1 := szR_zero (by omega)
  have c1 := rat_Cmp (RatA_rv z0) (RatA_rv (int_szR (n := -64) (by omega))) (by omega) (by omega) (by omega)
  have c2 := rat_Cmp (RatA_rv z0) (RatA_rv (int_szR (n := 64) (by omega))) (by omega) (by omega) (by omega)
  have zr := rat_Zero (RatA_rv z0) (by omega) (by omega)
  rw [decide_eq_true rfl] at zr
  have o := ball_Of (RatA_rv (int_szR (n := 1) (by omega))) (by omega)
  rw [show ((1 : Int) : Rat) = 1 from rfl] at i1 o
  have e1 : decide (cmpR 0 ((-64 : Int) : Rat) < 0) = false := by rw [cmpR_lt]; decide +kernel
  have e2 : decide (cmpR 0 ((64 : Int) : Rat) > 0) = false := by rw [cmpR_gt]; decide +kernel
  obtain ⟨s, n, d, rfl, -⟩ := hv
  generalize cmpR 0 ((-64 : Int) : Rat) = y1 at *
  generalize cmpR 0 ((64 : Int) : Rat) = y2 at *
  refine Go.Ev.Fn.intro (fn := Tryz.f58) (body := (Tryz.f58).body.get!) (by kernel_rfl) (by kernel_rfl) (by kernel_rfl) (fun _ => rfl) (Nat.le_of_ble_eq_true (by kernel_rfl)) ?_; unfold Tryz.f58; simp only [Option.get!_some]
  repeat (first | (simp only [go_sem, Nat.reduceEqDiff, Nat.reduceAdd, Nat.reduceSub, Nat.reduceMul, Nat.reduceLeDiff, Nat.reduceLT, reduceIte, reduceCtorEq, Nat.succ_ne_zero, elemsC, Int.reduceToNat, Nat.reducePow, e1, e2]) | (simp (disch := (first | omega | (simp only [AL, List.length_map]; omega))) only [AR, AL, ifT, ifF, take_all, List.length_cons, List.length_nil, Int.reduceToNat, Int.reducePow, Nat.reducePow, e1, e2]) | (refine wk_intro (by kernel_rfl) ?_) | (refine vp_draw (id := 2) (l := []) (by kernel_rfl) ?_) | (refine vf_of (by first | exact n1 | exact im | exact c1 | exact ip | exact c2 | exact zr | exact i1 | exact o) ?_))
/-- e to the power of what is not above 0. -/
theorem bell_fall (hv : RatA v z L) (hL1 : 1 ≤ L) (hL : L ≤ 100) (h1 : -64 ≤ z) (h2 : z ≤ 0) (hd : z.den ≤ 2 ^ 240) (hw : w ≤ 512) :
    ∃ A B : Nat, A ≤ B ∧ B ≤ A + 2 ∧ B ≤ 2 ^ w + 2 ∧ Go.Ev.Fn CX 107 [v, .int .i64 (w : Int)] (spanV A B) ∧ ∃ s0, ∀ L, s0 ≤ L → Enc w A B (evX z L) := by
  have P := p2_pos w
  by_cases h0 : z = 0
  · subst h0
    have ex := exps_Exp0 (pI := (w : Int)) hv hL
    have fb := fix_Ball (w := w) (lo := 1) (hi := 1) (L := 1) ⟨lim_len_lt (by decide +kernel), lim_len_lt (by decide +kernel)⟩ ⟨lim_len_lt (by decide +kernel), lim_len_lt (by decide +kernel)⟩ (by omega) (by omega)
    have u : unN 1 w = 2 ^ w := by show (1 : Rat).num.natAbs * 2 ^ w / (1 : Rat).den = _; rw [show (1 : Rat).num.natAbs = 1 from rfl, show (1 : Rat).den = 1 from rfl, Nat.one_mul, Nat.div_one]
    rw [u] at fb
    refine ⟨2 ^ w, 2 ^ w + 1, by omega, by omega, by omega, ?_, 1, fun L hL => ?_⟩
    · obtain ⟨s, n, d, rfl, -⟩ := hv
      generalize 2 ^ w = y at *
      refine Go.Ev.Fn.intro (fn := Tryz.f107) (body := (Tryz.f107).body.get!) (by kernel_rfl) (by kernel_rfl) (by kernel_rfl) (fun _ => rfl) (Nat.le_of_ble_eq_true (by kernel_rfl)) ?_; unfold Tryz.f107; simp only [Option.get!_some]
      repeat (first | (simp only [go_sem, Nat.reduceEqDiff, Nat.reduceAdd, Nat.reduceSub, Nat.reduceMul, Nat.reduceLeDiff, Nat.reduceLT, reduceIte, reduceCtorEq, Nat.succ_ne_zero, elemsC, Int.reduceToNat, Nat.reducePow]) | (simp (disch := (first | omega | (simp only [AL, List.length_map]; omega))) only [AR, AL, ifT, ifF, take_all, List.length_cons, List.length_nil, Int.reduceToNat, Int.reducePow, Nat.reducePow]) | (refine wk_intro (by kernel_rfl) ?_) | (refine vf_of (by first | exact ex | exact fb) ?_))
    · have e : evX 0 L = 1 := by
        unfold evX
        rw [if_neg (by decide)]
        obtain ⟨k, rfl⟩ : ∃ k, L = k + 1 := ⟨L - 1, by omega⟩
        exact Ex.E_zero k
      rw [e]
      refine ⟨by rw [Rat.one_mul]; exact Rat.le_refl, ?_⟩
      rw [Rat.one_mul]
      exact_mod_cast Nat.le_succ (2 ^ w)
  · have hneg : z < 0 := by grind
    obtain ⟨m, lm, fn, s0, hs⟩ := exps_Exp (P := w) (pI := (w : Int)) hv hL1 hL h0 h1 (by grind) hd hw (.inr rfl)
    have hm : m ≤ 2 ^ w := by
      have e := (hs (s0 + 1) (by omega)).1
      have one := E_one (x := -z) (by grind) (L := s0 + 1) (by omega)
      have i : Ex.E (-z) (s0 + 1) * (1 / Ex.E (-z) (s0 + 1)) = 1 := Ex.mul_div _ 1 (by grind)
      have i0 : 0 ≤ 1 / Ex.E (-z) (s0 + 1) := Ex.div_nn (by decide) (by grind)
      have le1 : 1 / Ex.E (-z) (s0 + 1) ≤ 1 := by
        have := Rat.mul_le_mul_of_nonneg_right one i0
        rw [i, Rat.one_mul] at this; exact this
      unfold evX at e
      rw [if_pos hneg] at e
      have k := Rat.le_trans e (Rat.mul_le_mul_of_nonneg_right le1 (Rat.le_of_lt P))
      rw [Rat.one_mul] at k
      exact_mod_cast k
    have lp := lim_len_pw (n := 2 ^ w) (w := w + 1) (by rw [Nat.pow_succ]; have : 0 < 2 ^ w := Nat.pow_pos (by omega); omega)
    have lm2 := lim_len_pw (n := m + 1) (w := w + 2) (by rw [Nat.pow_add]; have : 0 < 2 ^ w := Nat.pow_pos (by omega); omega)
    have lm1 : (lim m).length ≤ (lim (m + 1)).length := lim_len_mono (Nat.le_succ m)
    have z1 : szR (mkRat (m : Int) (2 ^ w)) 20 := szR_nat (by omega) (by omega) (by omega)
    have z2 : szR (mkRat ((m + 1 : Nat) : Int) (2 ^ w)) 20 := szR_nat (by omega) (by omega) (by omega)
    have fb := fix_Ball (w := w) z1 z2 (by omega) (by omega)
    rw [unN_mk, unN_mk] at fb
    refine ⟨m, m + 2, by omega, by omega, by omega, ?_, s0, fun L hL => ?_⟩
    · clear hs z1 z2 hd h1 h2 h0 hneg
      obtain ⟨s, n, d, rfl, -⟩ := hv
      generalize mkRat (m : Int) (2 ^ w) = q1 at *
      generalize mkRat ((m + 1 : Nat) : Int) (2 ^ w) = q2 at *
      refine Go.Ev.Fn.intro (fn := Tryz.f107) (body := (Tryz.f107).body.get!) (by kernel_rfl) (by kernel_rfl) (by kernel_rfl) (fun _ => rfl) (Nat.le_of_ble_eq_true (by kernel_rfl)) ?_; unfold Tryz.f107; simp only [Option.get!_some]
      repeat (first | (simp only [go_sem, Nat.reduceEqDiff, Nat.reduceAdd, Nat.reduceSub, Nat.reduceMul, Nat.reduceLeDiff, Nat.reduceLT, reduceIte, reduceCtorEq, Nat.succ_ne_zero, elemsC, Int.reduceToNat, Nat.reducePow]) | (simp (disch := (first | omega | (simp only [AL, List.length_map]; omega))) only [AR, AL, ifT, ifF, take_all, List.length_cons, List.length_nil, Int.reduceToNat, Int.reducePow, Nat.reducePow]) | (refine wk_intro (by kernel_rfl) ?_) | (refine vf_of (by first | exact fn | exact fb) ?_))
    · exact enc_wider (n := 1) (hs L hL)
theorem unN_lt {q : Rat} (h0 : 0 ≤ q) (w : Nat) : q * p2 w < ((unN q w + 1 : Nat) : Rat) := by
  have d := Ex.denR q
  have dR : (0 : Rat) < (q.den : Rat) := by exact_mod_cast q.den_pos
  have nn : 0 ≤ q.num := Rat.num_nonneg.2 h0
  have k := Nat.lt_mul_div_succ (q.num.natAbs * 2 ^ w) q.den_pos
  have k2 := Ex.castlt k
  rw [Ex.castmul, Ex.castmul] at k2
  have e : ((q.num.natAbs : Nat) : Rat) = (q.num : Rat) := by
    have h : ((q.num.natAbs : Nat) : Rat) = ((q.num.natAbs : Int) : Rat) := rfl
    rw [h, Int.natAbs_of_nonneg nn]
  rw [e, ← d] at k2
  refine Rat.not_le.1 fun hc => ?_
  have m := Rat.mul_le_mul_of_nonneg_right hc (Rat.le_of_lt dR)
  have k3 : q * (q.den : Rat) * p2 w < (q.den : Rat) * ((unN q w + 1 : Nat) : Rat) := k2
  grind
theorem unN_ge {q : Rat} (h : 1 ≤ 2 * q) (hw : 1 ≤ w) : 2 ^ (w - 1) ≤ unN q w := by
  have d := Ex.denR q
  have dR : (0 : Rat) < (q.den : Rat) := by exact_mod_cast q.den_pos
  have nn : 0 ≤ q.num := Rat.num_nonneg.2 (by grind)
  have m := Rat.mul_le_mul_of_nonneg_right h (Rat.le_of_lt dR)
  rw [Rat.one_mul, Rat.mul_assoc, d] at m
  have k : (q.den : Int) ≤ 2 * q.num := by
    have : ((q.den : Int) : Rat) ≤ ((2 * q.num : Int) : Rat) := by rw [Rat.intCast_mul]; exact m
    exact Rat.intCast_le_intCast.1 this
  refine (Nat.le_div_iff_mul_le q.den_pos).2 ?_
  have e1 : 2 ^ w = 2 ^ (w - 1) * 2 := by rw [← Nat.pow_succ]; congr 1; omega
  have k2 : q.den ≤ 2 * q.num.natAbs := by omega
  have m2 := Nat.mul_le_mul_left (2 ^ (w - 1)) k2
  have e2 : q.num.natAbs * 2 ^ w = 2 ^ (w - 1) * (2 * q.num.natAbs) := by rw [e1, Nat.mul_comm, Nat.mul_assoc]
  rw [e2]; exact m2
theorem unN_mono {p q : Rat} (h0 : 0 ≤ p) (h : p ≤ q) (w : Nat) : unN p w ≤ unN q w := by
  have a := (unN_le h0 w).1
  have b := (unN_lt (show 0 ≤ q by grind) w)
  have m := Rat.mul_le_mul_of_nonneg_right h (Rat.le_of_lt (p2_pos w))
  have k : ((unN p w : Nat) : Rat) < ((unN q w + 1 : Nat) : Rat) := by grind
  have k2 : unN p w < unN q w + 1 := by exact_mod_cast k
  omega
theorem lohi1 {c lo hi : Rat} (hc : 0 ≤ c) (g : lo ≤ hi) : loL (c * lo) [c * hi, c * lo, c * hi] = c * lo ∧ hiL (c * lo) [c * hi, c * lo, c * hi] = c * hi := by
  have g2 := Rat.mul_le_mul_of_nonneg_left g hc
  generalize c * lo = u at *
  generalize c * hi = v at *
  constructor
  · simp only [loL, List.foldl_cons, List.foldl_nil, mnR]
    repeat (first | rw [if_neg (by grind)] | rfl)
  · simp only [hiL, List.foldl_cons, List.foldl_nil, mxR]
    by_cases e : u < v
    · rw [if_pos e, if_neg (show ¬ v < u by grind), if_neg (show ¬ v < v by grind)]
    · rw [if_neg e, if_neg (show ¬ u < u by grind), if_neg e]; grind
/-- 1 by the root of so many times pi. -/
theorem bell_share {many : Nat} (hm : 1 ≤ many) (hm2 : many ≤ 2) (hw0 : 8 ≤ w) (hw : w < 225) :
    ∃ A B : Nat, ∃ r1 r2 : Rat, Go.Ev.Fn CX 95 [.int .i64 (many : Int), .int .i64 (w : Int)] (spanV A B) ∧ A ≤ B ∧ B ≤ 2 ^ (w + 2) ∧ 0 < r1 ∧ r1 ≤ r2 ∧ r1 * r1 ≤ (many : Rat) * (SQ * SQ) ∧ (many : Rat) * (SQ * SQ) ≤ r2 * r2 ∧ ∀ r, r1 ≤ r → r ≤ r2 → Enc w A B (1 / r) := by
  obtain ⟨m1, m2, fp, h1, h2, h3, h4, z1, z2⟩ := many_pi hw0 hw
  have ri := rat_Int (many : Int) (by omega)
  have zi := int_szR (n := (many : Int)) (by omega)
  have o := ball_Of (RatA_rv zi) (by omega)
  have c1 : (1 : Rat) ≤ ((many : Int) : Rat) := by
    have : ((1 : Nat) : Rat) ≤ (many : Rat) := Ex.castle hm
    exact this
  have g12 : m1 ≤ m2 := Rat.le_trans h1 h2
  have bm := ball_Mul (L := 80) (szR_mono zi (by omega)) (szR_mono zi (by omega)) (szR_mono z1 (by omega)) (szR_mono z2 (by omega)) (by omega) (by omega)
  rw [(lohi1 (show (0 : Rat) ≤ ((many : Int) : Rat) by grind) g12).1, (lohi1 (show (0 : Rat) ≤ ((many : Int) : Rat) by grind) g12).2] at bm
  have k1 : (1 : Rat) ≤ ((many : Int) : Rat) * m1 := by
    have := Rat.mul_le_mul_of_nonneg_left h4 (show (0 : Rat) ≤ ((many : Int) : Rat) by grind)
    grind
  have k2 := Rat.mul_le_mul_of_nonneg_left g12 (show (0 : Rat) ≤ ((many : Int) : Rat) by grind)
  have k3 := Rat.mul_le_mul_of_nonneg_left h1 (show (0 : Rat) ≤ ((many : Int) : Rat) by grind)
  have k4 := Rat.mul_le_mul_of_nonneg_left h2 (show (0 : Rat) ≤ ((many : Int) : Rat) by grind)
  obtain ⟨lo, lo', hi', hi, fr, r1, r2, r3, r4, r5, r6, r7, r8, r9, r10, y1, y2⟩ := root_Of (L := 82) (p := w) (A := ((many : Int) : Rat) * m1) (B := ((many : Int) : Rat) * m2) (by grind) (by grind) (szR_mono (szR_mul zi z1 (by omega)) (by omega)) (szR_mono (szR_mul zi z2 (by omega)) (by omega)) (by omega) (by omega) (by omega)
  have fb := fix_Ball (w := w) (szR_mono y1 (show _ ≤ 200 by omega)) (szR_mono y2 (show _ ≤ 200 by omega)) (by omega) (by omega)
  have W := p2_pos w
  -- the lower end is at least a half
  have lo1 : 1 ≤ 2 * lo := by
    have l1 : 1 ≤ lo' := by
      refine Rat.not_lt.1 fun h => ?_
      have a := Rat.mul_le_mul_of_nonneg_right (Rat.le_of_lt h) (show 0 ≤ lo' by grind)
      have b : lo' * lo' < 1 := by grind
      grind
    have w2 : (2 : Rat) ≤ p2 w := Ex.castle (show 2 ≤ 2 ^ w from Nat.le_trans (by decide) (Nat.pow_le_pow_right (n := 2) (by omega) (show 1 ≤ w by omega)))
    refine Rat.not_lt.1 fun h => ?_
    have a := Rat.mul_le_mul_of_nonneg_left w2 (show 0 ≤ lo' - lo by grind)
    grind
  have lh : lo ≤ hi := by
    have a : lo * lo ≤ hi * hi := Rat.le_trans r3 (Rat.le_trans k2 r9)
    exact Ex.le_by (c := 1) (by decide) (by rw [Rat.mul_one, Rat.mul_one]; exact sq_mono r1 (by grind) a)
  have lu := unN_ge lo1 (show 1 ≤ w by omega)
  have P1 : 0 < 2 ^ (w - 1) := Nat.pow_pos (by omega)
  have e1 : 2 ^ w = 2 ^ (w - 1) * 2 := by rw [← Nat.pow_succ]; congr 1; omega
  have en := fun r (a : lo ≤ r) (b : r ≤ hi) => enc_inv (w := w) (show 0 < unN lo w by omega) (ball_enc r1 a b w)
  have uB : unN lo w < unN hi w + 1 := by
    have a := (ball_enc r1 Rat.le_refl lh w)
    have b := a.1
    have c := a.2
    have d := Rat.le_trans b c
    have d' : unN lo w ≤ unN hi w + 1 := by exact_mod_cast d
    by_cases e : unN lo w = unN hi w + 1
    · exact absurd (unN_mono r1 lh w) (by omega)
    · omega
  have hi8 : unN hi w + 1 ≤ 2 ^ (w + 8) := by
    have sq4 : SQ * SQ ≤ 4 := by decide +kernel
    have p1 : (1 : Rat) ≤ p2 w := Ex.castle (show 1 ≤ 2 ^ w by omega)
    have m2le : m2 ≤ 5 := by
      refine Rat.not_lt.1 fun h => ?_
      have := Rat.mul_le_mul_of_nonneg_left p1 (show 0 ≤ m2 - m1 by grind)
      grind
    have mm : ((many : Int) : Rat) ≤ 2 := by
      have : ((many : Nat) : Rat) ≤ ((2 : Nat) : Rat) := Ex.castle hm2
      exact this
    have q10 : ((many : Int) : Rat) * m2 ≤ 10 := by
      have a := Rat.mul_le_mul_of_nonneg_right mm (show 0 ≤ m2 by grind)
      grind
    have h4' : hi' ≤ 4 := by
      refine Rat.not_lt.1 fun h => ?_
      have := Rat.mul_le_mul_of_nonneg_right (Rat.le_of_lt h) (show 0 ≤ hi' by grind)
      grind
    have h5 : hi ≤ 5 := by
      refine Rat.not_lt.1 fun h => ?_
      have := Rat.mul_le_mul_of_nonneg_left p1 (show 0 ≤ hi - hi' by grind)
      grind
    have u := (unN_le (show 0 ≤ hi by grind) w).1
    have m5 := Rat.mul_le_mul_of_nonneg_right h5 (Rat.le_of_lt W)
    have t : ((unN hi w : Nat) : Rat) ≤ ((5 * 2 ^ w : Nat) : Rat) := by
      rw [Ex.castmul]; exact Rat.le_trans u m5
    have t2 : unN hi w ≤ 5 * 2 ^ w := by exact_mod_cast t
    have e8 : 2 ^ (w + 8) = 2 ^ w * 256 := Nat.pow_add _ _ _
    omega
  have lA := lim_len_pw (n := unN lo w) (w := w + 9) (by rw [Nat.pow_succ]; omega)
  have lB := lim_len_pw (n := unN hi w + 1) (w := w + 9) (by rw [Nat.pow_succ]; omega)
  have iv := fix_Inverse (a := unN lo w) (b := unN hi w + 1) (w := w) (by omega) (by omega) (by omega) (by omega) (by omega)
  refine ⟨2 ^ (2 * w) / (unN hi w + 1), 2 ^ (2 * w) / unN lo w + 1, lo, hi, ?_, ?_, ?_, by grind, lh, Rat.le_trans r3 k3, Rat.le_trans k4 r9, fun r a b => (en r a b).1⟩
  · clear en k1 k2 k3 k4 r1 r2 r3 r4 r5 r6 r7 r8 r9 r10 lo1 lh h1 h2 h3 h4 g12 c1
    generalize 2 ^ (2 * w) / (unN hi w + 1) = A at *
    generalize 2 ^ (2 * w) / unN lo w + 1 = B at *
    generalize ((many : Int) : Rat) * m1 = q1 at *
    generalize ((many : Int) : Rat) * m2 = q2 at *
    generalize unN hi w + 1 = u2 at *
    generalize unN lo w = u1 at *
    refine Go.Ev.Fn.intro (fn := Tryz.f95) (body := (Tryz.f95).body.get!) (by kernel_rfl) (by kernel_rfl) (by kernel_rfl) (fun _ => rfl) (Nat.le_of_ble_eq_true (by kernel_rfl)) ?_; unfold Tryz.f95; simp only [Option.get!_some]
    repeat (first | (simp only [go_sem, Nat.reduceEqDiff, Nat.reduceAdd, Nat.reduceSub, Nat.reduceMul, Nat.reduceLeDiff, Nat.reduceLT, reduceIte, reduceCtorEq, Nat.succ_ne_zero, elemsC, Int.reduceToNat, Nat.reducePow]) | (simp (disch := (first | omega | (simp only [AL, List.length_map]; omega))) only [AR, AL, ifT, ifF, take_all, List.length_cons, List.length_nil, Int.reduceToNat, Int.reducePow, Nat.reducePow]) | (refine wk_intro (by kernel_rfl) ?_) | (refine vf_of (by first | exact ri | exact o | exact fp | exact bm | exact fr | exact fb | exact iv) ?_))
  · exact Nat.le_succ_of_le (Nat.div_le_div_left (by omega) (by omega))
  · have : 2 ^ (2 * w) / unN lo w ≤ 2 ^ (w + 1) := by
      refine (Nat.div_le_iff_le_mul (by omega)).2 ?_
      have e2 : 2 ^ (2 * w) = 2 ^ (w + 1) * 2 ^ (w - 1) := by rw [← Nat.pow_add]; congr 1; omega
      have m := Nat.mul_le_mul_left (2 ^ (w + 1)) lu
      omega
    have e3 : 2 ^ (w + 2) = 2 ^ (w + 1) * 2 := Nat.pow_succ _ _
    have : 0 < 2 ^ (w + 1) := Nat.pow_pos (by omega)
    omega
theorem fix_RatS {s : Bool} {n d : Nat} (hd : 0 < d) (ln : (lim n).length ≤ 1000) (ld : (lim d).length ≤ 1000) (hw : w ≤ 10000) : Go.Ev.Fn CX 128 [ratV s (lim n) (lim d), .int .i64 (w : Int)] (spanV (n * 2 ^ w / d) (n * 2 ^ w / d + 1)) := by
  have of := fix_Of (n := n) (d := d) (w := w) (by omega) (by omega) (by omega) (by omega)
  generalize n * 2 ^ w / d = x at *
  refine Go.Ev.Fn.intro (fn := Tryz.f128) (body := (Tryz.f128).body.get!) (by kernel_rfl) (by kernel_rfl) (by kernel_rfl) (fun _ => rfl) (Nat.le_of_ble_eq_true (by kernel_rfl)) ?_; unfold Tryz.f128; simp only [Option.get!_some]
  repeat (first | (simp only [go_sem, Nat.reduceEqDiff, Nat.reduceAdd, Nat.reduceSub, Nat.reduceMul, Nat.reduceLeDiff, Nat.reduceLT, reduceIte, reduceCtorEq, Nat.succ_ne_zero, elemsC, Int.reduceToNat, Nat.reducePow]) | (simp (disch := (first | omega | (simp only [AL, List.length_map]; omega))) only [AR, AL, ifT, ifF, take_all, List.length_cons, List.length_nil, Int.reduceToNat, Int.reducePow, Nat.reducePow]) | (refine wk_intro (by kernel_rfl) ?_) | (refine vf_of (by first | exact of) ?_))
/-- The bell's row, of a number and of its opposite. -/
theorem bell_row {n d many : Nat} (hd : 0 < d) (hn : n ≤ 8 * d) (hm : 1 ≤ many) (hm2 : many ≤ 2) (ln : (lim n).length ≤ 100) (ld : (lim d).length ≤ 100) (hw0 : 8 ≤ w) (hw : w ≤ 1000) :
    ∃ A B : Nat, A ≤ B ∧ B < 2 ^ (w + 10014) ∧ ∀ s : Bool, Go.Ev.Fn CX 146 [ratV s (lim n) (lim d), .int .u64 (many : Int), .int .i64 (w : Int)] (spanV A B) := by
  have fr := fun s => fix_RatS (s := s) (n := n) (d := d) (w := w) hd (by omega) (by omega) (by omega)
  have P : 2 ^ 8 ≤ 2 ^ w := Nat.pow_le_pow_right (by omega) hw0
  have Tle : n * 2 ^ w / d ≤ 2 ^ w * 8 := by
    refine (Nat.div_le_iff_le_mul hd).2 ?_
    have m := Nat.mul_le_mul_right (2 ^ w) hn
    have e : 8 * d * 2 ^ w = 2 ^ w * 8 * d := by rw [Nat.mul_comm, ← Nat.mul_assoc]
    omega
  generalize n * 2 ^ w / d = T at *
  have e9 : 2 ^ (w + 9) = 2 ^ w * 512 := Nat.pow_add _ _ _
  have e8 : 2 ^ (w + 8) = 2 ^ w * 256 := Nat.pow_add _ _ _
  have e10 : 2 ^ (w + 10) = 2 ^ w * 1024 := Nat.pow_add _ _ _
  have lT := lim_len_pw (n := T) (w := w + 9) (by omega)
  have lT1 := lim_len_pw (n := T + 1) (w := w + 9) (by omega)
  have sq := fix_Mul (a := T) (b := T + 1) (c := T) (d := T + 1) (w := w) (by omega) (by omega) (by omega) (by omega) (by omega) (by omega)
  have S2 : (T + 1) * (T + 1) / 2 ^ w ≤ 2 ^ w * 81 := by
    refine (Nat.div_le_iff_le_mul (by omega)).2 ?_
    have m := Nat.mul_le_mul (show T + 1 ≤ 2 ^ w * 9 by omega) (show T + 1 ≤ 2 ^ w * 9 by omega)
    have e : 2 ^ w * 9 * (2 ^ w * 9) = 2 ^ w * 81 * 2 ^ w := by generalize 2 ^ w = y; grind
    omega
  have S12 : T * T / 2 ^ w ≤ (T + 1) * (T + 1) / 2 ^ w := Nat.div_le_div_right (Nat.mul_le_mul (by omega) (by omega))
  generalize T * T / 2 ^ w = s1 at *
  generalize (T + 1) * (T + 1) / 2 ^ w = s2 at *
  have om := nat_Of many (by omega)
  have o1 := fix_One
  have l1 := lim_len1
  have lm : (lim many).length ≤ 2 := lim_len_lt (by omega)
  have ls1 := lim_len_pw (n := s1) (w := w + 8) (by omega)
  have ls2 := lim_len_pw (n := s2 + 1) (w := w + 8) (by omega)
  have ti := fix_Times (a := s1) (b := s2 + 1) (n := many) (d := 1) (by omega) (by omega) (by omega) (by omega) (by omega)
  have q1 : s1 * many / 1 ≤ (s2 + 1) * many / 1 + 1 := Nat.le_succ_of_le (Nat.div_le_div_right (Nat.mul_le_mul_right _ (by omega)))
  have q2 : (s2 + 1) * many / 1 + 1 ≤ 2 ^ (w + 8) := by
    rw [Nat.div_one]
    have := Nat.mul_le_mul_left (s2 + 1) hm2
    omega
  generalize s1 * many / 1 = Q1 at *
  generalize (s2 + 1) * many / 1 + 1 = Q2 at *
  have lQ1 := lim_len_pw (n := Q1) (w := w + 9) (by omega)
  have lQ2 := lim_len_pw (n := Q2) (w := w + 9) (by omega)
  have i0 := tInv_0 (w := w) (k0 := 3) (t1 := T) (t2 := T + 1) (a1 := T) (a2 := T + 1) (by omega) (by omega) (by omega) (by omega)
  obtain ⟨F, hF⟩ : ∃ F : Nat, F = 5200 := ⟨_, rfl⟩
  obtain ⟨A, B, hr, hAB, hB⟩ := tRow_end (w := w) (Y1 := Q1) (Y2 := Q2) (M := many * 128) (k0 := 3) q2 q1 (by omega) (by omega) (by omega) 1023 F 0 3 T (T + 1) T (T + 1) i0 (by omega) (by omega) (by omega)
  refine ⟨A, B, hAB, hB, fun s => ?_⟩
  have lens := fun (i k t1 t2 a1 a2 : Nat) (hi : i ≤ F) (h : tInv w 3 i k t1 t2 a1 a2) => (show (lim t1).length ≤ 1000 ∧ (lim t2).length ≤ 1000 ∧ (lim a1).length ≤ 1000 ∧ (lim a2).length ≤ 1000 from by
    obtain ⟨h1, h2, h3, h4, h5⟩ := h
    have a := lim_len_pw h4
    have b := lim_len_mono h2
    have up : (i + 2) * 2 ^ (w + 10000) ≤ 2 ^ (w + 10014) := by
      have e : 2 ^ (w + 10014) = 16384 * 2 ^ (w + 10000) := by rw [show w + 10014 = 14 + (w + 10000) by omega, Nat.pow_add 2 14]
      rw [e]; exact Nat.mul_le_mul_right _ (by omega)
    have c := lim_len_pw (n := a2) (w := w + 10014) (by omega)
    have d := lim_len_mono h3
    exact ⟨by omega, by omega, by omega, by omega⟩)
  have step := fun (i k t1 t2 a1 a2 : Nat) (h : tInv w 3 i k t1 t2 a1 a2) => tInv_step (Y1 := Q1) (Y2 := Q2) q2 q1 (by omega) h
  have frs := fr s
  have shl : (many : Int) * 2 ^ 7 = ((many * 128 : Nat) : Int) := by omega
  clear fr ls1 ls2 S2 S12 Tle e8 e9 e10 hB hAB
  refine Go.Ev.Fn.intro (fn := Tryz.f146) (body := (Tryz.f146).body.get!) (by kernel_rfl) (by kernel_rfl) (by kernel_rfl) (fun _ => rfl) (Nat.le_of_ble_eq_true (by kernel_rfl)) ?_; unfold Tryz.f146; simp only [Option.get!_some]
  repeat (first | (simp only [go_sem, Nat.reduceEqDiff, Nat.reduceAdd, Nat.reduceSub, Nat.reduceMul, Nat.reduceLeDiff, Nat.reduceLT, reduceIte, reduceCtorEq, Nat.succ_ne_zero, elemsC, Int.reduceToNat, Nat.reducePow]) | (simp (disch := (first | omega | (simp only [AL, List.length_map]; omega))) only [AR, AL, ifT, ifF, take_all, List.length_cons, List.length_nil, Int.reduceToNat, Int.reducePow, Nat.reducePow]) | (refine wk_intro (by kernel_rfl) ?_) | (refine vf_of (by first | exact frs | exact sq | exact om | exact o1 | exact ti) ?_))
  refine vp_loop_inv (fun s' => s'.tmp 1 = .sv (.int .u64 (many : Int)) ∧ s'.tmp 2 = .sv (.int .i64 (w : Int)) ∧ s'.tmp 6 = .ptr 6 0 0 ∧ s'.obj 6 0 = some [.sl 0 [], .sl 0 []] ∧ s'.tmp 7 = .ptr 7 0 0 ∧ s'.tmp 8 = .ptr 8 0 0 ∧ s'.obj 8 0 = some [natV (lim Q1), natV (lim Q2)] ∧ s'.tmp 9 = .ptr 9 0 0 ∧
      ∃ f i k t1 t2 a1 a2 : Nat, s'.tmp 10 = .sv (.int .u64 (k : Int)) ∧ f + i = F ∧ tRow w Q1 Q2 (many * 128) f k t1 t2 a1 a2 = some (A, B) ∧ s'.obj 7 0 = some [natV (lim t1), natV (lim t2)] ∧ s'.obj 9 0 = some [natV (lim a1), natV (lim a2)] ∧ tInv w 3 i k t1 t2 a1 a2)
    (fun s' => match s'.tmp 10 with | .sv (.int _ i) => 20000 - i.toNat | _ => 0) ⟨rfl, rfl, rfl, rfl, rfl, rfl, rfl, rfl, F, 0, 3, T, T + 1, T, T + 1, rfl, by omega, hr, rfl, rfl, i0⟩ ?_
  rintro s' ⟨i1, i2, i6, o6, i7, i8, o8, i9, f, i, k, t1, t2, a1, a2, i10, hfi, hgo, o7, o9, hok⟩
  obtain ⟨lt1, lt2, la1, la2⟩ := lens i k t1 t2 a1 a2 (by omega) hok
  have hk := hok.1
  have st := step i k t1 t2 a1 a2 hok
  have sm := fix_Small (a := t1) (b := t2) (by omega) (k := 2) (by omega)
  cases f with
  | zero => simp only [tRow] at hgo; cases hgo
  | succ f =>
    rw [tRow] at hgo
    by_cases hs : many * 128 ≤ k ∧ t2 < 4
    · rw [if_pos hs] at hgo
      simp only [Option.some.injEq, Prod.mk.injEq] at hgo
      obtain ⟨rfl, rfl⟩ := hgo
      rw [decide_eq_true (show t2 < 2 ^ 2 from hs.2)] at sm
      have wd := fix_Wider (a := a1) (b := a2) (n := 8) (by omega) (by omega) (by omega)
      have hs1 := hs.1
      clear step lens st hr
      repeat (first | (simp only [go_sem, Nat.reduceEqDiff, Nat.reduceAdd, Nat.reduceSub, Nat.reduceMul, Nat.reduceLeDiff, Nat.reduceLT, reduceIte, reduceCtorEq, Nat.succ_ne_zero, elemsC, Int.reduceToNat, Nat.reducePow, i1, i2, i6, o6, i7, i8, o8, i9, i10, o7, o9, shl, Bool.not_true]) | (simp (disch := (first | omega | (simp only [AL, List.length_map]; omega))) only [AR, AL, ifT, ifF, take_all, List.length_cons, List.length_nil, Int.reduceToNat, Int.reducePow, Nat.reducePow, i1, i2, i6, o6, i7, i8, o8, i9, i10, o7, o9, shl, Bool.not_true]) | (refine wk_intro (by kernel_rfl) ?_) | (refine vf_of (by first | exact sm | exact wd) ?_))
    · rw [if_neg hs] at hgo
      obtain ⟨lu1, lu2, lb1, lb2⟩ := lens (i + 1) (k + 2) _ _ _ _ (by omega) st
      have mu := fix_Mul (a := t1) (b := t2) (c := Q1) (d := Q2) (w := w) (by omega) (by omega) (by omega) (by omega) (by omega) (by omega)
      have qk := nat_Of k (by omega)
      have lq : (lim k).length ≤ 2 := lim_len_lt (by omega)
      have z1 := lim_len_mul (a := t1) (b := Q1)
      have z2 := lim_len_mul (a := t2) (b := Q2)
      have z3 := lim_len_mono (Nat.div_le_self (t1 * Q1) (2 ^ w))
      have z4 := lim_len_add (a := t2 * Q2 / 2 ^ w) (b := 1) (L := 5000) (Nat.le_trans (lim_len_mono (Nat.div_le_self (t2 * Q2) (2 ^ w))) (by omega)) (by omega)
      have tk := fix_Times (a := t1 * Q1 / 2 ^ w) (b := t2 * Q2 / 2 ^ w + 1) (n := 1) (d := k) (by omega) (by omega) (by omega) (by omega) (by omega)
      generalize t1 * Q1 / 2 ^ w * 1 / k = u1 at *
      generalize (t2 * Q2 / 2 ^ w + 1) * 1 / k + 1 = u2 at *
      generalize t1 * Q1 / 2 ^ w = v1 at *
      generalize t2 * Q2 / 2 ^ w + 1 = v2 at *
      have ad := fix_Add (a := a1) (b := a2) (c := u1) (d := u2) (by omega) (by omega) (by omega) (by omega)
      clear step lens hr
      by_cases hs1 : k < many * 128
      · clear sm
        repeat (first | (simp only [go_sem, Nat.reduceEqDiff, Nat.reduceAdd, Nat.reduceSub, Nat.reduceMul, Nat.reduceLeDiff, Nat.reduceLT, reduceIte, reduceCtorEq, Nat.succ_ne_zero, elemsC, Int.reduceToNat, Nat.reducePow, i1, i2, i6, o6, i7, i8, o8, i9, i10, o7, o9, shl]) | (simp (disch := (first | omega | (simp only [AL, List.length_map]; omega))) only [AR, AL, ifT, ifF, take_all, List.length_cons, List.length_nil, Int.reduceToNat, Int.reducePow, Nat.reducePow, i1, i2, i6, o6, i7, i8, o8, i9, i10, o7, o9, shl]) | (refine wk_intro (by kernel_rfl) ?_) | (refine vf_of (by first | exact mu | exact o1 | exact qk | exact tk | exact ad) ?_))
        exact ⟨⟨f, i + 1, k + 2, u1, u2, a1 + u1, a2 + u2, rfl, by omega, hgo, rfl, rfl, st⟩, by omega⟩
      · rw [decide_eq_false (show ¬ t2 < 2 ^ 2 from fun h => hs ⟨by omega, h⟩)] at sm
        repeat (first | (simp only [go_sem, Nat.reduceEqDiff, Nat.reduceAdd, Nat.reduceSub, Nat.reduceMul, Nat.reduceLeDiff, Nat.reduceLT, reduceIte, reduceCtorEq, Nat.succ_ne_zero, elemsC, Int.reduceToNat, Nat.reducePow, i1, i2, i6, o6, i7, i8, o8, i9, i10, o7, o9, shl, Bool.not_false]) | (simp (disch := (first | omega | (simp only [AL, List.length_map]; omega))) only [AR, AL, ifT, ifF, take_all, List.length_cons, List.length_nil, Int.reduceToNat, Int.reducePow, Nat.reducePow, i1, i2, i6, o6, i7, i8, o8, i9, i10, o7, o9, shl, Bool.not_false]) | (refine wk_intro (by kernel_rfl) ?_) | (refine vf_of (by first | exact sm | exact mu | exact o1 | exact qk | exact tk | exact ad) ?_))
        exact ⟨⟨f, i + 1, k + 2, u1, u2, a1 + u1, a2 + u2, rfl, by omega, hgo, rfl, rfl, st⟩, by omega⟩
end
end Go.Proofs.YtemnjalaincijaaGreat

/- bell: area, Phi, Tail, Density, Erf of a number and of its opposite; ball: Neg, Add, in the evaluator. -/
namespace Go.Proofs.YtemnjalaincijaaGreat
set_option linter.unusedSimpArgs false
set_option linter.unusedVariables false
set_option maxRecDepth 8000
open Go.Ev
set_option linter.unusedVariables false
theorem ball_Neg {a b : Rat} {L : Nat} (ha : szR a L) (hb : szR b L) (hL1 : 1 ≤ L) (hL : L ≤ 100000) : Go.Ev.Fn CX 96 [ballR a b] (ballR (-b) (-a)) := by
  have n1 := rat_Neg (RatA_rv ha) hL1 (by omega)
  have n2 := rat_Neg (RatA_rv hb) hL1 (by omega)
  generalize -a = u at *
  generalize -b = w at *
  refine Go.Ev.Fn.intro (fn := Tryz.f96) (body := (Tryz.f96).body.get!) (by kernel_rfl) (by kernel_rfl) (by kernel_rfl) (fun _ => rfl) (Nat.le_of_ble_eq_true (by kernel_rfl)) ?_; unfold Tryz.f96; simp only [Option.get!_some]
  repeat (first | (simp only [go_sem, Nat.reduceEqDiff, Nat.reduceAdd, Nat.reduceSub, Nat.reduceMul, Nat.reduceLeDiff, Nat.reduceLT, reduceIte, reduceCtorEq, Nat.succ_ne_zero, elemsC, Int.reduceToNat, Nat.reducePow]) | (simp (disch := (first | omega | (simp only [AL, List.length_map]; omega))) only [AR, AL, ifT, ifF, take_all, List.length_cons, List.length_nil, Int.reduceToNat, Int.reducePow, Nat.reducePow]) | (refine wk_intro (by kernel_rfl) ?_) | (refine vp_draw (id := 1) (l := []) (by kernel_rfl) ?_) | (refine vf_of (by first | exact n2 | exact n1) ?_))
theorem ball_Add {a b c d : Rat} {L M : Nat} (ha : szR a L) (hb : szR b L) (hc : szR c M) (hd : szR d M) (hL1 : 1 ≤ L) (hM1 : 1 ≤ M) (hL : L + M ≤ 100000) : Go.Ev.Fn CX 97 [ballR a b, ballR c d] (ballR (a + c) (b + d)) := by
  have s1 := rat_Add (RatA_rv ha) (RatA_rv hc) hL1 hM1 (by omega)
  have s2 := rat_Add (RatA_rv hb) (RatA_rv hd) hL1 hM1 (by omega)
  generalize a + c = x at *
  generalize b + d = y at *
  refine Go.Ev.Fn.intro (fn := Tryz.f97) (body := (Tryz.f97).body.get!) (by kernel_rfl) (by kernel_rfl) (by kernel_rfl) (fun _ => rfl) (Nat.le_of_ble_eq_true (by kernel_rfl)) ?_; unfold Tryz.f97; simp only [Option.get!_some]
  repeat (first | (simp only [go_sem, Nat.reduceEqDiff, Nat.reduceAdd, Nat.reduceSub, Nat.reduceMul, Nat.reduceLeDiff, Nat.reduceLT, reduceIte, reduceCtorEq, Nat.succ_ne_zero, elemsC, Int.reduceToNat, Nat.reducePow]) | (simp (disch := (first | omega | (simp only [AL, List.length_map]; omega))) only [AR, AL, ifT, ifF, take_all, List.length_cons, List.length_nil, Int.reduceToNat, Int.reducePow, Nat.reducePow]) | (refine wk_intro (by kernel_rfl) ?_) | (refine vp_draw (id := 1) (l := []) (by kernel_rfl) ?_) | (refine vf_of (by first | exact s1 | exact s2) ?_))
theorem rv_neg (z : Rat) : ∃ s : Bool, rv (-z) = ratV s (lim z.num.natAbs) (lim z.den) := by
  refine ⟨decide ((-z).num < 0), ?_⟩
  show ratV (decide ((-z).num < 0)) (lim (-z).num.natAbs) (lim (-z).den) = _
  rw [Rat.neg_num, Rat.neg_den, Int.natAbs_neg]
theorem two_len : szR 2 1 := ⟨lim_len_lt (by decide +kernel), lim_len_lt (by decide +kernel)⟩
theorem den_le {q : Rat} {L : Nat} (h : szR q L) (hL : L ≤ 7) : q.den ≤ 2 ^ 240 := by
  have a : q.den < 4294967296 ^ (lim q.den).length := lim_len_pow
  have b : 4294967296 ^ (lim q.den).length ≤ 4294967296 ^ 7 := Nat.pow_le_pow_right (by omega) (Nat.le_trans h.2 hL)
  have c : 4294967296 ^ 7 ≤ 2 ^ 240 := by decide +kernel
  omega
theorem num_le8 {z : Rat} (h0 : 0 ≤ z) (h : z ≤ 8) : z.num.natAbs ≤ 8 * z.den := by
  have d := Ex.denR z
  have dR : (0 : Rat) < (z.den : Rat) := by exact_mod_cast z.den_pos
  have nn : 0 ≤ z.num := Rat.num_nonneg.2 h0
  have m := Rat.mul_le_mul_of_nonneg_right h (Rat.le_of_lt dR)
  rw [d] at m
  have k : z.num ≤ 8 * (z.den : Int) := by
    have : (z.num : Rat) ≤ ((8 * (z.den : Int) : Int) : Rat) := by rw [Rat.intCast_mul]; exact m
    exact Rat.intCast_le_intCast.1 this
  omega
theorem neg64 {q : Rat} (h0 : 0 ≤ q) (h : q ≤ 64) : -64 ≤ -q ∧ -q ≤ 0 := by constructor <;> grind
theorem sq_same {y z : Rat} (h : y = z ∨ y = -z) : y * y = z * z := by rcases h with rfl | rfl <;> grind
theorem sq_bd {z : Rat} (h0 : 0 ≤ z) (h : z ≤ 8) : 0 ≤ z * z ∧ z * z ≤ 64 := by
  have a := Rat.mul_nonneg h0 h0
  have b := Rat.mul_le_mul_of_nonneg_left h h0
  exact ⟨a, by grind⟩
section
variable {z : Rat} {w P : Nat} {pI : Int}
/-- The area below the curve, of a number and of its opposite. -/
theorem bell_area {many S1 S2 : Nat} (hz : szR z 3) (h0 : 0 ≤ z) (h8 : z ≤ 8) (hm : 1 ≤ many) (hm2 : many ≤ 2) (hw0 : 8 ≤ w) (hw : w ≤ 500) (hS : S1 ≤ S2) (hS2 : S2 ≤ 2 ^ (w + 2)) :
    ∃ A B : Nat, A ≤ B ∧ B < 2 ^ (w + 10030) ∧ ∀ y : Rat, y = z ∨ y = -z → Go.Ev.Fn CX 94 [rv y, .int .u64 (many : Int), spanV S1 S2, .int .i64 (w : Int)] (spanV A B) := by
  have zp := Nat.le_trans hz.1 (show 3 ≤ 100 by omega)
  have zd := Nat.le_trans hz.2 (show 3 ≤ 100 by omega)
  obtain ⟨R1, R2, r1, r2, fr⟩ := bell_row (n := z.num.natAbs) (d := z.den) (many := many) (w := w) z.den_pos (num_le8 h0 h8) hm hm2 zp zd hw0 (by omega)
  obtain ⟨q0, q64⟩ := sq_bd h0 h8
  obtain ⟨sq, hsq, sqz, sq1, sq2⟩ : ∃ sq : Rat, sq = (if many = 1 then z * z / 2 else z * z) ∧ szR sq 7 ∧ 0 ≤ sq ∧ sq ≤ 64 := by
    by_cases e : many = 1
    · refine ⟨_, rfl, ?_, ?_⟩ <;> rw [if_pos e]
      · exact szR_mono (szR_div (szR_mul hz hz (by omega)) two_len (by omega) (by omega)) (by omega)
      · have hh : z * z / 2 * 2 = z * z := Rat.div_mul_cancel (by decide)
        generalize z * z / 2 = t at *
        clear r1 r2 fr
        constructor <;> grind
    · refine ⟨_, rfl, ?_, ?_⟩ <;> rw [if_neg e]
      · exact szR_mono (szR_mul hz hz (by omega)) (by omega)
      · exact ⟨q0, q64⟩
  have zn := szR_neg sqz
  obtain ⟨F1, F2, f1, -, f2, ff, -⟩ := bell_fall (z := -sq) (w := w) (RatA_rv zn) (by omega) (by omega) (neg64 sq1 sq2).1 (neg64 sq1 sq2).2 (den_le zn (by omega)) (by omega)
  have ng := rat_Neg (RatA_rv sqz) (by omega) (by omega)
  have i2 := rat_Int 2 (by omega)
  have dv := rat_Div (RatA_rv (szR_mul hz hz (by omega))) (RatA_rv (int_szR (n := 2) (by omega))) (by omega) (by omega) (by omega)
  rw [show ((2 : Int) : Rat) = 2 from rfl] at i2 dv
  rw [decide_eq_true (show ¬ (2 : Rat) = 0 by decide)] at dv
  have P2 : 2 ^ 8 ≤ 2 ^ w := Nat.pow_le_pow_right (by omega) hw0
  have e1 : 2 ^ (w + 2) = 2 ^ w * 4 := Nat.pow_add _ _ _
  have lR2 := lim_len_pw r2
  have lR1 := lim_len_mono r1
  have lF2 := lim_len_pw (n := F2) (w := w + 2) (by omega)
  have lF1 := lim_len_mono f1
  have lS2 := lim_len_pw (n := S2) (w := w + 3) (by rw [Nat.pow_add]; omega)
  have lS1 := lim_len_mono hS
  have m1 := fix_Mul (a := R1) (b := R2) (c := F1) (d := F2) (w := w) (by omega) (by omega) (by omega) (by omega) (by omega) (by omega)
  have u1 : R1 * F1 / 2 ^ w ≤ R2 * F2 / 2 ^ w + 1 := Nat.le_succ_of_le (Nat.div_le_div_right (Nat.mul_le_mul r1 f1))
  have u2 : R2 * F2 / 2 ^ w + 1 < 2 ^ (w + 10018) := by
    have a : R2 * F2 / 2 ^ w ≤ 2 ^ (w + 10014) * 4 := by
      refine (Nat.div_le_iff_le_mul (by omega)).2 ?_
      have b := Nat.mul_le_mul (Nat.le_of_lt r2) (show F2 ≤ 4 * 2 ^ w by omega)
      rw [← Nat.mul_assoc] at b
      omega
    have e : 2 ^ (w + 10018) = 2 ^ (w + 10014) * 16 := by rw [show w + 10018 = w + 10014 + 4 by omega, Nat.pow_add _ _ 4]
    have : 2 ^ 1 ≤ 2 ^ (w + 10014) := Nat.pow_le_pow_right (by omega) (by omega)
    omega
  generalize R1 * F1 / 2 ^ w = U1 at *
  generalize R2 * F2 / 2 ^ w + 1 = U2 at *
  have lU2 := lim_len_pw u2
  have lU1 := lim_len_mono u1
  have m2 := fix_Mul (a := U1) (b := U2) (c := S1) (d := S2) (w := w) (by omega) (by omega) (by omega) (by omega) (by omega) (by omega)
  refine ⟨U1 * S1 / 2 ^ w, U2 * S2 / 2 ^ w + 1, Nat.le_succ_of_le (Nat.div_le_div_right (Nat.mul_le_mul u1 hS)), ?_, fun y hy => ?_⟩
  · have a : U2 * S2 / 2 ^ w ≤ 2 ^ (w + 10018) * 4 := by
      refine (Nat.div_le_iff_le_mul (by omega)).2 ?_
      have b := Nat.mul_le_mul (Nat.le_of_lt u2) (show S2 ≤ 4 * 2 ^ w by omega)
      rw [← Nat.mul_assoc] at b
      omega
    have e : 2 ^ (w + 10030) = 2 ^ (w + 10018) * 4096 := by rw [show w + 10030 = w + 10018 + 12 by omega, Nat.pow_add _ _ 12]
    have : 2 ^ 1 ≤ 2 ^ (w + 10018) := Nat.pow_le_pow_right (by omega) (by omega)
    omega
  · obtain ⟨s, hs⟩ : ∃ s : Bool, rv y = ratV s (lim z.num.natAbs) (lim z.den) := by
      rcases hy with rfl | rfl
      · exact ⟨_, rfl⟩
      · exact rv_neg z
    have zy : szR y 3 := by
      rcases hy with rfl | rfl
      · exact hz
      · exact szR_neg hz
    have mu := rat_Mul (RatA_rv zy) (RatA_rv zy) (by omega) (by omega) (by omega)
    have yy := sq_same hy
    rw [yy, hs] at mu
    rw [hs]
    have frs := fr s
    generalize U1 * S1 / 2 ^ w = V1 at *
    generalize U2 * S2 / 2 ^ w + 1 = V2 at *
    clear fr yy zy hy hs e1 P2 u1 u2 r1 r2
    by_cases e : many = 1
    · subst e
      rw [if_pos rfl] at hsq
      rw [← hsq] at dv
      clear hsq sqz sq1 sq2 q0 q64
      generalize z * z = zz at *
      generalize -sq = nsq at *
      refine Go.Ev.Fn.intro (fn := Tryz.f94) (body := (Tryz.f94).body.get!) (by kernel_rfl) (by kernel_rfl) (by kernel_rfl) (fun _ => rfl) (Nat.le_of_ble_eq_true (by kernel_rfl)) ?_; unfold Tryz.f94; simp only [Option.get!_some]
      repeat (first | (simp only [go_sem, Nat.reduceEqDiff, Nat.reduceAdd, Nat.reduceSub, Nat.reduceMul, Nat.reduceLeDiff, Nat.reduceLT, reduceIte, reduceCtorEq, Nat.succ_ne_zero, elemsC, Int.reduceToNat, Nat.reducePow]) | (simp (disch := (first | omega | (simp only [AL, List.length_map]; omega))) only [AR, AL, ifT, ifF, take_all, List.length_cons, List.length_nil, Int.reduceToNat, Int.reducePow, Nat.reducePow]) | (refine wk_intro (by kernel_rfl) ?_) | (refine vp_draw (id := 3) (l := []) (by kernel_rfl) ?_) | (refine vp_draw (id := 4) (l := []) (by kernel_rfl) ?_) | (refine vf_of (by first | exact mu | exact i2 | exact dv | exact frs | exact ng | exact ff | exact m1 | exact m2) ?_))
    · have e2 : many = 2 := by omega
      subst e2
      rw [if_neg (by omega)] at hsq
      rw [← hsq] at mu
      clear hsq sqz sq1 sq2 q0 q64 dv
      generalize -sq = nsq at *
      refine Go.Ev.Fn.intro (fn := Tryz.f94) (body := (Tryz.f94).body.get!) (by kernel_rfl) (by kernel_rfl) (by kernel_rfl) (fun _ => rfl) (Nat.le_of_ble_eq_true (by kernel_rfl)) ?_; unfold Tryz.f94; simp only [Option.get!_some]
      repeat (first | (simp only [go_sem, Nat.reduceEqDiff, Nat.reduceAdd, Nat.reduceSub, Nat.reduceMul, Nat.reduceLeDiff, Nat.reduceLT, reduceIte, reduceCtorEq, Nat.succ_ne_zero, elemsC, Int.reduceToNat, Nat.reducePow]) | (simp (disch := (first | omega | (simp only [AL, List.length_map]; omega))) only [AR, AL, ifT, ifF, take_all, List.length_cons, List.length_nil, Int.reduceToNat, Int.reducePow, Nat.reducePow]) | (refine wk_intro (by kernel_rfl) ?_) | (refine vp_draw (id := 3) (l := []) (by kernel_rfl) ?_) | (refine vp_draw (id := 4) (l := []) (by kernel_rfl) ?_) | (refine vf_of (by first | exact mu | exact frs | exact ng | exact ff | exact m1 | exact m2) ?_))
end
end Go.Proofs.YtemnjalaincijaaGreat

/- bell: Phi, Tail, Density, Erf of a number and of its opposite, in the evaluator. -/
namespace Go.Proofs.YtemnjalaincijaaGreat
set_option linter.unusedSimpArgs false
set_option linter.unusedVariables false
set_option maxRecDepth 8000
open Go.Ev
set_option linter.unusedVariables false
theorem half_div : ((1 : Int) : Rat) / ((2 : Int) : Rat) = 1 / 2 := rfl
theorem hlf_len : szR (1 / 2) 1 := ⟨lim_len_lt (by decide +kernel), lim_len_lt (by decide +kernel)⟩
theorem unit_len : szR 1 1 := ⟨lim_len_lt (by decide +kernel), lim_len_lt (by decide +kernel)⟩
/-- What is told of a span. -/
theorem told_span {A B w p : Nat} (hAB : A ≤ B) (hB : B < 2 ^ (w + 10040)) (hp : p < w) (hw : w ≤ 500) :
    ∃ l h : Rat, l ≤ h ∧ 0 ≤ l ∧ szR l 400 ∧ szR h 400 ∧ l = mkRat ((A / 2 ^ (w - p) : Nat) : Int) (2 ^ p) ∧ h = mkRat ((B / 2 ^ (w - p) + 1 : Nat) : Int) (2 ^ p) ∧ Go.Ev.Fn CX 63 [spanV A B, .int .i64 (w : Int), .int .i64 (p : Int)] (ballR l h) := by
  have lB := lim_len_pw hB
  have lA := lim_len_mono hAB
  have t := fix_Told (a := A) (b := B) (w := w) (p := p) (by omega) (by omega) hp (by omega)
  have P := p2_pos p
  have a := mk_p2 (A / 2 ^ (w - p)) p
  have b := mk_p2 (B / 2 ^ (w - p) + 1) p
  have d : A / 2 ^ (w - p) ≤ B / 2 ^ (w - p) + 1 := Nat.le_succ_of_le (Nat.div_le_div_right hAB)
  have l1 := lim_len_mono (Nat.div_le_self A (2 ^ (w - p)))
  have l2 := lim_len_mono (Nat.div_le_self B (2 ^ (w - p)))
  have l3 := lim_len_add (a := B / 2 ^ (w - p)) (b := 1) (L := 399) (by omega) (by have := lim_len1; omega)
  have lp := lim_len_shl (a := 1) (n := p)
  rw [Nat.one_mul] at lp
  have lo := lim_len1
  refine ⟨_, _, le_by P ?_, le_by P ?_, szR_nat (by omega) (by omega) (by omega), szR_nat (by omega) (by omega) (by omega), rfl, rfl, t⟩
  · rw [a, b]; exact Ex.castle d
  · rw [a, Rat.zero_mul]; exact nat_nonneg _
section
variable {z : Rat} {P : Nat} {pI : Int}
theorem num_neg_iff {x : Rat} (h : 0 < x) : decide (x.num < 0) = false ∧ decide ((-x).num < 0) = true := by
  have a := neg_numX (x := x)
  have b := neg_numX (x := -x)
  rw [decide_eq_false (show ¬ x < 0 by grind)] at a
  rw [decide_eq_true (show -x < 0 by grind)] at b
  exact ⟨a, b⟩
theorem bell_Phi (hz : szR z 3) (h0 : 0 < z) (h8 : z ≤ 8) (hpI : (pI ≤ 0 ∧ P = 0) ∨ pI = (P : Int)) (hP : P ≤ 96) :
    ∃ l h : Rat, l ≤ h ∧ szR l 400 ∧ szR h 400 ∧ (∀ v, RatA v z 3 → Go.Ev.Fn CX 40 [v, .int .i64 pI] (.tup [ballR (1 / 2 + l) (1 / 2 + h), .bool true])) ∧ (∀ v, RatA v (-z) 3 → Go.Ev.Fn CX 40 [v, .int .i64 pI] (.tup [ballR (1 / 2 + -h) (1 / 2 + -l), .bool true])) := by
  have g1 : -8 ≤ z := by grind
  have g2 : -8 ≤ -z := by grind
  have g3 : -z ≤ 8 := by grind
  have g4 : ¬ z = 0 := by grind
  have g5 : ¬ -z = 0 := by grind
  obtain ⟨S1, S2, r1, r2, fs, s1, s2, -⟩ := bell_share (many := 2) (w := P + 128) (by omega) (by omega) (by omega) (by omega)
  obtain ⟨A, B, a1, a2, fa⟩ := bell_area (many := 1) (w := P + 128) hz (Rat.le_of_lt h0) h8 (by omega) (by omega) (by omega) (by omega) s1 s2
  have e40 : 2 ^ (P + 128 + 10030) ≤ 2 ^ (P + 128 + 10040) := Nat.pow_le_pow_right (by omega) (by omega)
  obtain ⟨l, h, t1, t2, t3, t4, -, -, ft⟩ := told_span (w := P + 128) (p := P + 2) a1 (by omega) (by omega) (by omega)
  have hh := bell_held hpI (show P ≤ 200 by omega)
  have i1 := rat_Int 1 (by omega)
  have i2 := rat_Int 2 (by omega)
  have dv := rat_Div (RatA_rv (int_szR (n := 1) (by omega))) (RatA_rv (int_szR (n := 2) (by omega))) (by omega) (by omega) (by omega)
  rw [half_div, decide_eq_true (show ¬ ((2 : Int) : Rat) = 0 by decide)] at dv
  have oh := ball_Of (RatA_rv hlf_len) (by omega)
  have ng := ball_Neg t3 t4 (by omega) (by omega)
  have ad1 := ball_Add hlf_len hlf_len t3 t4 (by omega) (by omega) (by omega)
  have ad2 := ball_Add hlf_len hlf_len (szR_neg t4) (szR_neg t3) (by omega) (by omega) (by omega)
  obtain ⟨n1, n2⟩ := num_neg_iff h0
  rw [show ((P + 128 : Nat) : Int) = (P : Int) + 128 from rfl] at fs fa ft
  rw [show ((P + 2 : Nat) : Int) = (P : Int) + 2 from rfl] at ft
  refine ⟨l, h, t1, t3, t4, fun v hv => ?_, fun v hv => ?_⟩
  · have fr := bell_nigh hv (by omega) (by omega) g1 h8
    have nm := rat_Norm hv (by omega)
    have zr := rat_Zero (RatA_rv hz) (by omega) (by omega)
    rw [decide_eq_false g4] at zr
    have fa1 := fa z (.inl rfl)
    have erz : rv z = ratV false (lim z.num.natAbs) (lim z.den) := by show ratV (decide (z.num < 0)) _ _ = _; rw [n1]
    rw [erz] at nm zr fa1
    clear fa ad2 ng n2 hz h0 h8 t1 t2 t3 t4 e40 a1 a2 s1 s2
    obtain ⟨s, n, d, rfl, -⟩ := hv
    generalize 1 / 2 + l = q1 at *
    generalize 1 / 2 + h = q2 at *
    generalize (1 / 2 : Rat) = hf at *
    refine Go.Ev.Fn.intro (fn := Tryz.f40) (body := (Tryz.f40).body.get!) (by kernel_rfl) (by kernel_rfl) (by kernel_rfl) (fun _ => rfl) (Nat.le_of_ble_eq_true (by kernel_rfl)) ?_; unfold Tryz.f40; simp only [Option.get!_some]
    repeat (first | (simp only [go_sem, Nat.reduceEqDiff, Nat.reduceAdd, Nat.reduceSub, Nat.reduceMul, Nat.reduceLeDiff, Nat.reduceLT, reduceIte, reduceCtorEq, Nat.succ_ne_zero, elemsC, Int.reduceToNat, Nat.reducePow]) | (simp (disch := (first | omega | (simp only [AL, List.length_map]; omega))) only [AR, AL, ifT, ifF, take_all, List.length_cons, List.length_nil, Int.reduceToNat, Int.reducePow, Nat.reducePow]) | (refine wk_intro (by kernel_rfl) ?_) | (refine vp_draw (id := 8) (l := []) (by kernel_rfl) ?_) | (refine vp_draw (id := 11) (l := []) (by kernel_rfl) ?_) | (refine vf_of (by first | exact fr | exact nm | exact i1 | exact i2 | exact dv | exact zr | exact hh | exact fs | exact fa1 | exact ft | exact oh | exact ad1) ?_))
  · have zn := szR_neg hz
    have fr := bell_nigh hv (by omega) (by omega) g2 g3
    have nm := rat_Norm hv (by omega)
    have zr := rat_Zero (RatA_rv zn) (by omega) (by omega)
    rw [decide_eq_false g5] at zr
    have fa1 := fa (-z) (.inr rfl)
    have erz : rv (-z) = ratV true (lim (-z).num.natAbs) (lim (-z).den) := by show ratV (decide ((-z).num < 0)) _ _ = _; rw [n2]
    rw [erz] at nm zr fa1
    clear fa ad1 n1 hz h0 h8 t1 t2 t3 t4 e40 a1 a2 s1 s2 zn
    obtain ⟨s, n, d, rfl, -⟩ := hv
    generalize 1 / 2 + -h = q1 at *
    generalize 1 / 2 + -l = q2 at *
    generalize (1 / 2 : Rat) = hf at *
    generalize -h = mh at *
    generalize -l = ml at *
    refine Go.Ev.Fn.intro (fn := Tryz.f40) (body := (Tryz.f40).body.get!) (by kernel_rfl) (by kernel_rfl) (by kernel_rfl) (fun _ => rfl) (Nat.le_of_ble_eq_true (by kernel_rfl)) ?_; unfold Tryz.f40; simp only [Option.get!_some]
    repeat (first | (simp only [go_sem, Nat.reduceEqDiff, Nat.reduceAdd, Nat.reduceSub, Nat.reduceMul, Nat.reduceLeDiff, Nat.reduceLT, reduceIte, reduceCtorEq, Nat.succ_ne_zero, elemsC, Int.reduceToNat, Nat.reducePow]) | (simp (disch := (first | omega | (simp only [AL, List.length_map]; omega))) only [AR, AL, ifT, ifF, take_all, List.length_cons, List.length_nil, Int.reduceToNat, Int.reducePow, Nat.reducePow]) | (refine wk_intro (by kernel_rfl) ?_) | (refine vp_draw (id := 8) (l := []) (by kernel_rfl) ?_) | (refine vp_draw (id := 11) (l := []) (by kernel_rfl) ?_) | (refine vf_of (by first | exact fr | exact nm | exact i1 | exact i2 | exact dv | exact zr | exact hh | exact fs | exact fa1 | exact ft | exact ng | exact oh | exact ad2) ?_))
theorem bell_Phi0 {v : SV} (hv : RatA v 0 3) : Go.Ev.Fn CX 40 [v, .int .i64 pI] (.tup [ballR (1 / 2) (1 / 2), .bool true]) := by
  have z0 : szR 0 3 := szR_zero (by omega)
  have fr := bell_nigh hv (by omega) (by omega) (by decide +kernel) (by decide +kernel)
  have nm := rat_Norm hv (by omega)
  have zr := rat_Zero (RatA_rv z0) (by omega) (by omega)
  rw [decide_eq_true rfl] at zr
  have i1 := rat_Int 1 (by omega)
  have i2 := rat_Int 2 (by omega)
  have dv := rat_Div (RatA_rv (int_szR (n := 1) (by omega))) (RatA_rv (int_szR (n := 2) (by omega))) (by omega) (by omega) (by omega)
  rw [half_div, decide_eq_true (show ¬ ((2 : Int) : Rat) = 0 by decide)] at dv
  have oh := ball_Of (RatA_rv hlf_len) (by omega)
  obtain ⟨s, n, d, rfl, -⟩ := hv
  generalize (1 / 2 : Rat) = hf at *
  refine Go.Ev.Fn.intro (fn := Tryz.f40) (body := (Tryz.f40).body.get!) (by kernel_rfl) (by kernel_rfl) (by kernel_rfl) (fun _ => rfl) (Nat.le_of_ble_eq_true (by kernel_rfl)) ?_; unfold Tryz.f40; simp only [Option.get!_some]
  repeat (first | (simp only [go_sem, Nat.reduceEqDiff, Nat.reduceAdd, Nat.reduceSub, Nat.reduceMul, Nat.reduceLeDiff, Nat.reduceLT, reduceIte, reduceCtorEq, Nat.succ_ne_zero, elemsC, Int.reduceToNat, Nat.reducePow]) | (simp (disch := (first | omega | (simp only [AL, List.length_map]; omega))) only [AR, AL, ifT, ifF, take_all, List.length_cons, List.length_nil, Int.reduceToNat, Int.reducePow, Nat.reducePow]) | (refine wk_intro (by kernel_rfl) ?_) | (refine vp_draw (id := 8) (l := []) (by kernel_rfl) ?_) | (refine vp_draw (id := 11) (l := []) (by kernel_rfl) ?_) | (refine vf_of (by first | exact fr | exact nm | exact i1 | exact i2 | exact dv | exact zr | exact oh) ?_))
theorem bell_PhiFar {v : SV} (hv : RatA v z 3) (h : z < -8 ∨ 8 < z) : Go.Ev.Fn CX 40 [v, .int .i64 pI] (.tup [ballR 0 0, .bool false]) := by
  have fr := bell_far hv (by omega) (by omega) h
  have i0 := rat_Int 0 (by omega)
  have o := ball_Of (RatA_rv (int_szR (n := 0) (by omega))) (by omega)
  rw [show ((0 : Int) : Rat) = 0 from rfl] at i0 o
  clear h
  obtain ⟨s, n, d, rfl, -⟩ := hv
  refine Go.Ev.Fn.intro (fn := Tryz.f40) (body := (Tryz.f40).body.get!) (by kernel_rfl) (by kernel_rfl) (by kernel_rfl) (fun _ => rfl) (Nat.le_of_ble_eq_true (by kernel_rfl)) ?_; unfold Tryz.f40; simp only [Option.get!_some]
  repeat (first | (simp only [go_sem, Nat.reduceEqDiff, Nat.reduceAdd, Nat.reduceSub, Nat.reduceMul, Nat.reduceLeDiff, Nat.reduceLT, reduceIte, reduceCtorEq, Nat.succ_ne_zero, elemsC, Int.reduceToNat, Nat.reducePow]) | (simp (disch := (first | omega | (simp only [AL, List.length_map]; omega))) only [AR, AL, ifT, ifF, take_all, List.length_cons, List.length_nil, Int.reduceToNat, Int.reducePow, Nat.reducePow]) | (refine wk_intro (by kernel_rfl) ?_) | (refine vp_draw (id := 8) (l := []) (by kernel_rfl) ?_) | (refine vp_draw (id := 11) (l := []) (by kernel_rfl) ?_) | (refine vf_of (by first | exact fr | exact i0 | exact o) ?_))
end
end Go.Proofs.YtemnjalaincijaaGreat

/- Whether a distribution may be: dist.isDomain, isGreat, Check, Counts; vernierref14.in, Check, Counts, in the evaluator. -/
namespace Go.Proofs.YtemnjalaincijaaGreat
set_option linter.unusedSimpArgs false
set_option linter.unusedVariables false
set_option maxRecDepth 8000
open Go.Ev
/-- A distribution's reading. -/
abbrev distV (k n m : Int) (sa : Bool) (na da : List Nat) (sb : Bool) (nb db : List Nat) : SV :=
  .agg [.int .i64 k, .int .i64 n, .int .i64 m, .bool sa, natV na, natV da, .bool sb, natV nb, natV db]
/-- May a distribution's numbers be, however great they are? -/
def inD (k n m : Int) (a b : Rat) : Bool :=
  if k = 1 then decide (0 < b) else if k = 2 then decide (0 < a) else if k = 3 then decide (1 ≤ n) && decide (0 < a)
  else if k = 4 then decide (1 ≤ n) else if k = 5 then decide (1 ≤ n) else if k = 6 then decide (1 ≤ n) && decide (1 ≤ m) else if k = 7 then decide (1 ≤ n) && decide (1 ≤ m)
  else if k = 8 then decide (0 ≤ n) && (decide (0 ≤ a) && decide (a ≤ 1)) else if k = 9 then decide (0 ≤ a) else false
/-- Are they too great? -/
def gtD (k n m : Int) (a : Rat) : Bool :=
  if k = 3 then decide (256 < n) else if k = 4 then decide (256 < n) else if k = 5 then decide (256 < n) else if k = 6 then decide (256 < n) || decide (256 < m) else if k = 7 then decide (256 < n) || decide (256 < m)
  else if k = 8 then decide (256 < n) else if k = 9 then decide (64 < a) else false
def chkD (k n m : Int) (a b : Rat) : Int := if inD k n m a b then (if gtD k n m a then 7 else 0) else 4
section
variable {k n m : Int} {sa sb : Bool} {na da nb db : List Nat} {a b : Rat} {L : Nat}
theorem dist_above {v : SV} {q : Rat} {L : Nat} (hv : RatA v q L) (hL : 1 ≤ L) (h : L ≤ 1048576) (n : Int) (hn : -9223372036854775808 ≤ n ∧ n < 9223372036854775808) : Go.Ev.Fn CX 166 [v, .int .i64 n] (.bool (decide ((n : Rat) < q))) := by
  have hI := rat_Int n hn
  have hC := rat_Cmp hv (RatA_rv (int_szR (n := n) (by omega))) hL (by omega) (by omega)
  obtain ⟨s, x, d, rfl, -⟩ := hv
  refine Go.Ev.Fn.intro (fn := Tryz.f166) (body := (Tryz.f166).body.get!) (by kernel_rfl) (by kernel_rfl) (by kernel_rfl) (fun _ => rfl) (Nat.le_of_ble_eq_true (by kernel_rfl)) ?_; unfold Tryz.f166; simp only [Option.get!_some]
  repeat (first | (simp only [go_sem, Nat.reduceEqDiff, Nat.reduceAdd, Nat.reduceSub, Nat.reduceMul, Nat.reduceLeDiff, Nat.reduceLT, reduceIte, reduceCtorEq, Nat.succ_ne_zero, elemsC, Int.reduceToNat, Nat.reducePow, cmpR_gt]) | (simp (disch := (first | omega | (simp only [AL, List.length_map]; omega))) only [AR, AL, ifT, ifF, take_all, List.length_cons, List.length_nil, Int.reduceToNat, Int.reducePow, Nat.reducePow, cmpR_gt]) | (refine wk_intro (by kernel_rfl) ?_) | (refine vp_draw (id := 1) (l := []) (by kernel_rfl) ?_) | (refine vf_of (by first | exact hI | exact hC) ?_))
theorem dist_below {v : SV} {q : Rat} {L : Nat} (hv : RatA v q L) (hL : 1 ≤ L) (h : L ≤ 1048576) (n : Int) (hn : -9223372036854775808 ≤ n ∧ n < 9223372036854775808) : Go.Ev.Fn CX 165 [v, .int .i64 n] (.bool (decide (q < (n : Rat)))) := by
  have hI := rat_Int n hn
  have hC := rat_Cmp hv (RatA_rv (int_szR (n := n) (by omega))) hL (by omega) (by omega)
  obtain ⟨s, x, d, rfl, -⟩ := hv
  refine Go.Ev.Fn.intro (fn := Tryz.f165) (body := (Tryz.f165).body.get!) (by kernel_rfl) (by kernel_rfl) (by kernel_rfl) (fun _ => rfl) (Nat.le_of_ble_eq_true (by kernel_rfl)) ?_; unfold Tryz.f165; simp only [Option.get!_some]
  repeat (first | (simp only [go_sem, Nat.reduceEqDiff, Nat.reduceAdd, Nat.reduceSub, Nat.reduceMul, Nat.reduceLeDiff, Nat.reduceLT, reduceIte, reduceCtorEq, Nat.succ_ne_zero, elemsC, Int.reduceToNat, Nat.reducePow, cmpR_lt]) | (simp (disch := (first | omega | (simp only [AL, List.length_map]; omega))) only [AR, AL, ifT, ifF, take_all, List.length_cons, List.length_nil, Int.reduceToNat, Int.reducePow, Nat.reducePow, cmpR_lt]) | (refine wk_intro (by kernel_rfl) ?_) | (refine vp_draw (id := 1) (l := []) (by kernel_rfl) ?_) | (refine vf_of (by first | exact hI | exact hC) ?_))
theorem kinds (k : Int) : k = 1 ∨ k = 2 ∨ k = 3 ∨ k = 4 ∨ k = 5 ∨ k = 6 ∨ k = 7 ∨ k = 8 ∨ k = 9 ∨ (k ≠ 1 ∧ k ≠ 2 ∧ k ≠ 3 ∧ k ≠ 4 ∧ k ≠ 5 ∧ k ≠ 6 ∧ k ≠ 7 ∧ k ≠ 8 ∧ k ≠ 9) := by omega
theorem not_lt_dec {q r : Rat} : (!decide (q < r)) = decide (r ≤ q) := by
  by_cases h : q < r
  · rw [decide_eq_true h, decide_eq_false (show ¬ r ≤ q by grind)]; rfl
  · rw [decide_eq_false h, decide_eq_true (show r ≤ q by grind)]; rfl
theorem dist_isDomain (hA : RatA (ratV sa na da) a L) (hB : RatA (ratV sb nb db) b L) (hL : 1 ≤ L) (h : L ≤ 1048576) : Go.Ev.Fn CX 161 [distV k n m sa na da sb nb db] (.bool (inD k n m a b)) := by
  have a0 := dist_above hA hL h 0 (by omega)
  have a1 := dist_above hA hL h 1 (by omega)
  have b0 := dist_above hB hL h 0 (by omega)
  have l0 := dist_below hA hL h 0 (by omega)
  rw [show ((0 : Int) : Rat) = 0 from rfl] at a0 b0 l0
  rw [show ((1 : Int) : Rat) = 1 from rfl] at a1
  refine Go.Ev.Fn.intro (fn := Tryz.f161) (body := (Tryz.f161).body.get!) (by kernel_rfl) (by kernel_rfl) (by kernel_rfl) (fun _ => rfl) (Nat.le_of_ble_eq_true (by kernel_rfl)) ?_; unfold Tryz.f161; simp only [Option.get!_some]
  rcases kinds k with rfl | rfl | rfl | rfl | rfl | rfl | rfl | rfl | rfl | ⟨k1, k2, k3, k4, k5, k6, k7, k8, k9⟩
  · repeat (first | (simp only [go_sem, Nat.reduceEqDiff, Nat.reduceAdd, Nat.reduceSub, Nat.reduceMul, Nat.reduceLeDiff, Nat.reduceLT, reduceIte, reduceCtorEq, Nat.succ_ne_zero, elemsC, Int.reduceToNat, Nat.reducePow]) | (simp (disch := (first | omega | (simp only [AL, List.length_map]; omega))) only [AR, AL, ifT, ifF, take_all, List.length_cons, List.length_nil, Int.reduceToNat, Int.reducePow, Nat.reducePow]) | (refine wk_intro (by kernel_rfl) ?_))
    refine vf_of (b0) ?_; repeat (first | (simp only [go_sem, Nat.reduceEqDiff, Nat.reduceAdd, Nat.reduceSub, Nat.reduceMul, Nat.reduceLeDiff, Nat.reduceLT, reduceIte, reduceCtorEq, Nat.succ_ne_zero, elemsC, Int.reduceToNat, Nat.reducePow]) | (simp (disch := (first | omega | (simp only [AL, List.length_map]; omega))) only [AR, AL, ifT, ifF, take_all, List.length_cons, List.length_nil, Int.reduceToNat, Int.reducePow, Nat.reducePow]) | (refine wk_intro (by kernel_rfl) ?_))
    rfl
  · repeat (first | (simp only [go_sem, Nat.reduceEqDiff, Nat.reduceAdd, Nat.reduceSub, Nat.reduceMul, Nat.reduceLeDiff, Nat.reduceLT, reduceIte, reduceCtorEq, Nat.succ_ne_zero, elemsC, Int.reduceToNat, Nat.reducePow]) | (simp (disch := (first | omega | (simp only [AL, List.length_map]; omega))) only [AR, AL, ifT, ifF, take_all, List.length_cons, List.length_nil, Int.reduceToNat, Int.reducePow, Nat.reducePow]) | (refine wk_intro (by kernel_rfl) ?_))
    refine vf_of (a0) ?_; repeat (first | (simp only [go_sem, Nat.reduceEqDiff, Nat.reduceAdd, Nat.reduceSub, Nat.reduceMul, Nat.reduceLeDiff, Nat.reduceLT, reduceIte, reduceCtorEq, Nat.succ_ne_zero, elemsC, Int.reduceToNat, Nat.reducePow]) | (simp (disch := (first | omega | (simp only [AL, List.length_map]; omega))) only [AR, AL, ifT, ifF, take_all, List.length_cons, List.length_nil, Int.reduceToNat, Int.reducePow, Nat.reducePow]) | (refine wk_intro (by kernel_rfl) ?_))
    rfl
  · rw [show inD 3 n m a b = (decide (1 ≤ n) && decide (0 < a)) from rfl]
    by_cases hn : 1 ≤ n
    · rw [decide_eq_true hn, Bool.true_and]
      repeat (first | (simp only [go_sem, Nat.reduceEqDiff, Nat.reduceAdd, Nat.reduceSub, Nat.reduceMul, Nat.reduceLeDiff, Nat.reduceLT, reduceIte, reduceCtorEq, Nat.succ_ne_zero, elemsC, Int.reduceToNat, Nat.reducePow]) | (simp (disch := (first | omega | (simp only [AL, List.length_map]; omega))) only [AR, AL, ifT, ifF, take_all, List.length_cons, List.length_nil, Int.reduceToNat, Int.reducePow, Nat.reducePow]) | (refine wk_intro (by kernel_rfl) ?_) | (refine vf_of (by first | exact a0) ?_))
    · rw [decide_eq_false hn, Bool.false_and]
      repeat (first | (simp only [go_sem, Nat.reduceEqDiff, Nat.reduceAdd, Nat.reduceSub, Nat.reduceMul, Nat.reduceLeDiff, Nat.reduceLT, reduceIte, reduceCtorEq, Nat.succ_ne_zero, elemsC, Int.reduceToNat, Nat.reducePow]) | (simp (disch := (first | omega | (simp only [AL, List.length_map]; omega))) only [AR, AL, ifT, ifF, take_all, List.length_cons, List.length_nil, Int.reduceToNat, Int.reducePow, Nat.reducePow]) | (refine wk_intro (by kernel_rfl) ?_))
  · rw [show inD 4 n m a b = decide (1 ≤ n) from rfl]
    repeat (first | (simp only [go_sem, Nat.reduceEqDiff, Nat.reduceAdd, Nat.reduceSub, Nat.reduceMul, Nat.reduceLeDiff, Nat.reduceLT, reduceIte, reduceCtorEq, Nat.succ_ne_zero, elemsC, Int.reduceToNat, Nat.reducePow]) | (simp (disch := (first | omega | (simp only [AL, List.length_map]; omega))) only [AR, AL, ifT, ifF, take_all, List.length_cons, List.length_nil, Int.reduceToNat, Int.reducePow, Nat.reducePow]) | (refine wk_intro (by kernel_rfl) ?_))
  · rw [show inD 5 n m a b = decide (1 ≤ n) from rfl]
    repeat (first | (simp only [go_sem, Nat.reduceEqDiff, Nat.reduceAdd, Nat.reduceSub, Nat.reduceMul, Nat.reduceLeDiff, Nat.reduceLT, reduceIte, reduceCtorEq, Nat.succ_ne_zero, elemsC, Int.reduceToNat, Nat.reducePow]) | (simp (disch := (first | omega | (simp only [AL, List.length_map]; omega))) only [AR, AL, ifT, ifF, take_all, List.length_cons, List.length_nil, Int.reduceToNat, Int.reducePow, Nat.reducePow]) | (refine wk_intro (by kernel_rfl) ?_))
  · rw [show inD 6 n m a b = (decide (1 ≤ n) && decide (1 ≤ m)) from rfl]
    by_cases hn : 1 ≤ n
    · rw [decide_eq_true hn, Bool.true_and]
      repeat (first | (simp only [go_sem, Nat.reduceEqDiff, Nat.reduceAdd, Nat.reduceSub, Nat.reduceMul, Nat.reduceLeDiff, Nat.reduceLT, reduceIte, reduceCtorEq, Nat.succ_ne_zero, elemsC, Int.reduceToNat, Nat.reducePow]) | (simp (disch := (first | omega | (simp only [AL, List.length_map]; omega))) only [AR, AL, ifT, ifF, take_all, List.length_cons, List.length_nil, Int.reduceToNat, Int.reducePow, Nat.reducePow]) | (refine wk_intro (by kernel_rfl) ?_))
    · rw [decide_eq_false hn, Bool.false_and]
      repeat (first | (simp only [go_sem, Nat.reduceEqDiff, Nat.reduceAdd, Nat.reduceSub, Nat.reduceMul, Nat.reduceLeDiff, Nat.reduceLT, reduceIte, reduceCtorEq, Nat.succ_ne_zero, elemsC, Int.reduceToNat, Nat.reducePow]) | (simp (disch := (first | omega | (simp only [AL, List.length_map]; omega))) only [AR, AL, ifT, ifF, take_all, List.length_cons, List.length_nil, Int.reduceToNat, Int.reducePow, Nat.reducePow]) | (refine wk_intro (by kernel_rfl) ?_))
  · rw [show inD 7 n m a b = (decide (1 ≤ n) && decide (1 ≤ m)) from rfl]
    by_cases hn : 1 ≤ n
    · rw [decide_eq_true hn, Bool.true_and]
      repeat (first | (simp only [go_sem, Nat.reduceEqDiff, Nat.reduceAdd, Nat.reduceSub, Nat.reduceMul, Nat.reduceLeDiff, Nat.reduceLT, reduceIte, reduceCtorEq, Nat.succ_ne_zero, elemsC, Int.reduceToNat, Nat.reducePow]) | (simp (disch := (first | omega | (simp only [AL, List.length_map]; omega))) only [AR, AL, ifT, ifF, take_all, List.length_cons, List.length_nil, Int.reduceToNat, Int.reducePow, Nat.reducePow]) | (refine wk_intro (by kernel_rfl) ?_))
    · rw [decide_eq_false hn, Bool.false_and]
      repeat (first | (simp only [go_sem, Nat.reduceEqDiff, Nat.reduceAdd, Nat.reduceSub, Nat.reduceMul, Nat.reduceLeDiff, Nat.reduceLT, reduceIte, reduceCtorEq, Nat.succ_ne_zero, elemsC, Int.reduceToNat, Nat.reducePow]) | (simp (disch := (first | omega | (simp only [AL, List.length_map]; omega))) only [AR, AL, ifT, ifF, take_all, List.length_cons, List.length_nil, Int.reduceToNat, Int.reducePow, Nat.reducePow]) | (refine wk_intro (by kernel_rfl) ?_))
  · rw [show inD 8 n m a b = (decide (0 ≤ n) && (decide (0 ≤ a) && decide (a ≤ 1))) from rfl]
    by_cases hn : 0 ≤ n
    · rw [decide_eq_true hn, Bool.true_and]
      by_cases ha : a < 0
      · rw [decide_eq_true ha] at l0
        rw [decide_eq_false (show ¬ 0 ≤ a by grind), Bool.false_and]
        repeat (first | (simp only [go_sem, Nat.reduceEqDiff, Nat.reduceAdd, Nat.reduceSub, Nat.reduceMul, Nat.reduceLeDiff, Nat.reduceLT, reduceIte, reduceCtorEq, Nat.succ_ne_zero, elemsC, Int.reduceToNat, Nat.reducePow, Bool.not_true]) | (simp (disch := (first | omega | (simp only [AL, List.length_map]; omega))) only [AR, AL, ifT, ifF, take_all, List.length_cons, List.length_nil, Int.reduceToNat, Int.reducePow, Nat.reducePow, Bool.not_true]) | (refine wk_intro (by kernel_rfl) ?_) | (refine vf_of (by first | exact l0) ?_))
      · rw [decide_eq_false ha] at l0
        rw [decide_eq_true (show 0 ≤ a by grind), Bool.true_and]
        repeat (first | (simp only [go_sem, Nat.reduceEqDiff, Nat.reduceAdd, Nat.reduceSub, Nat.reduceMul, Nat.reduceLeDiff, Nat.reduceLT, reduceIte, reduceCtorEq, Nat.succ_ne_zero, elemsC, Int.reduceToNat, Nat.reducePow, Bool.not_false, not_lt_dec]) | (simp (disch := (first | omega | (simp only [AL, List.length_map]; omega))) only [AR, AL, ifT, ifF, take_all, List.length_cons, List.length_nil, Int.reduceToNat, Int.reducePow, Nat.reducePow, Bool.not_false, not_lt_dec]) | (refine wk_intro (by kernel_rfl) ?_) | (refine vf_of (by first | exact l0 | exact a1) ?_))
    · rw [decide_eq_false hn, Bool.false_and]
      repeat (first | (simp only [go_sem, Nat.reduceEqDiff, Nat.reduceAdd, Nat.reduceSub, Nat.reduceMul, Nat.reduceLeDiff, Nat.reduceLT, reduceIte, reduceCtorEq, Nat.succ_ne_zero, elemsC, Int.reduceToNat, Nat.reducePow]) | (simp (disch := (first | omega | (simp only [AL, List.length_map]; omega))) only [AR, AL, ifT, ifF, take_all, List.length_cons, List.length_nil, Int.reduceToNat, Int.reducePow, Nat.reducePow]) | (refine wk_intro (by kernel_rfl) ?_))
  · rw [show inD 9 n m a b = decide (0 ≤ a) from rfl]
    repeat (first | (simp only [go_sem, Nat.reduceEqDiff, Nat.reduceAdd, Nat.reduceSub, Nat.reduceMul, Nat.reduceLeDiff, Nat.reduceLT, reduceIte, reduceCtorEq, Nat.succ_ne_zero, elemsC, Int.reduceToNat, Nat.reducePow, not_lt_dec]) | (simp (disch := (first | omega | (simp only [AL, List.length_map]; omega))) only [AR, AL, ifT, ifF, take_all, List.length_cons, List.length_nil, Int.reduceToNat, Int.reducePow, Nat.reducePow, not_lt_dec]) | (refine wk_intro (by kernel_rfl) ?_) | (refine vf_of (by first | exact l0) ?_))
  · have e : inD k n m a b = false := by
      unfold inD
      rw [if_neg k1, if_neg k2, if_neg k3, if_neg k4, if_neg k5, if_neg k6, if_neg k7, if_neg k8, if_neg k9]
    rw [e]
    repeat (first | (simp only [go_sem, Nat.reduceEqDiff, Nat.reduceAdd, Nat.reduceSub, Nat.reduceMul, Nat.reduceLeDiff, Nat.reduceLT, reduceIte, reduceCtorEq, Nat.succ_ne_zero, elemsC, Int.reduceToNat, Nat.reducePow]) | (simp (disch := (first | omega | (simp only [AL, List.length_map]; omega))) only [AR, AL, ifT, ifF, take_all, List.length_cons, List.length_nil, Int.reduceToNat, Int.reducePow, Nat.reducePow]) | (refine wk_intro (by kernel_rfl) ?_))
theorem max_gt (n m : Int) : decide ((if m > n then m else n) > 256) = (decide (256 < n) || decide (256 < m)) := by
  rw [← Bool.decide_or]
  congr 1
  split <;> (apply propext; omega)
theorem dist_isGreat (hA : RatA (ratV sa na da) a L) (hL : 1 ≤ L) (h : L ≤ 1048576) : Go.Ev.Fn CX 162 [distV k n m sa na da sb nb db] (.bool (gtD k n m a)) := by
  have a64 := dist_above hA hL h 64 (by omega)
  rw [show ((64 : Int) : Rat) = 64 from rfl] at a64
  refine Go.Ev.Fn.intro (fn := Tryz.f162) (body := (Tryz.f162).body.get!) (by kernel_rfl) (by kernel_rfl) (by kernel_rfl) (fun _ => rfl) (Nat.le_of_ble_eq_true (by kernel_rfl)) ?_; unfold Tryz.f162; simp only [Option.get!_some]
  rcases kinds k with rfl | rfl | rfl | rfl | rfl | rfl | rfl | rfl | rfl | ⟨k1, k2, k3, k4, k5, k6, k7, k8, k9⟩
  · repeat (first | (simp only [go_sem, Nat.reduceEqDiff, Nat.reduceAdd, Nat.reduceSub, Nat.reduceMul, Nat.reduceLeDiff, Nat.reduceLT, reduceIte, reduceCtorEq, Nat.succ_ne_zero, elemsC, Int.reduceToNat, Nat.reducePow]) | (simp (disch := (first | omega | (simp only [AL, List.length_map]; omega))) only [AR, AL, ifT, ifF, take_all, List.length_cons, List.length_nil, Int.reduceToNat, Int.reducePow, Nat.reducePow]) | (refine wk_intro (by kernel_rfl) ?_))
    rfl
  · repeat (first | (simp only [go_sem, Nat.reduceEqDiff, Nat.reduceAdd, Nat.reduceSub, Nat.reduceMul, Nat.reduceLeDiff, Nat.reduceLT, reduceIte, reduceCtorEq, Nat.succ_ne_zero, elemsC, Int.reduceToNat, Nat.reducePow]) | (simp (disch := (first | omega | (simp only [AL, List.length_map]; omega))) only [AR, AL, ifT, ifF, take_all, List.length_cons, List.length_nil, Int.reduceToNat, Int.reducePow, Nat.reducePow]) | (refine wk_intro (by kernel_rfl) ?_))
    rfl
  · repeat (first | (simp only [go_sem, Nat.reduceEqDiff, Nat.reduceAdd, Nat.reduceSub, Nat.reduceMul, Nat.reduceLeDiff, Nat.reduceLT, reduceIte, reduceCtorEq, Nat.succ_ne_zero, elemsC, Int.reduceToNat, Nat.reducePow]) | (simp (disch := (first | omega | (simp only [AL, List.length_map]; omega))) only [AR, AL, ifT, ifF, take_all, List.length_cons, List.length_nil, Int.reduceToNat, Int.reducePow, Nat.reducePow]) | (refine wk_intro (by kernel_rfl) ?_))
    rfl
  · repeat (first | (simp only [go_sem, Nat.reduceEqDiff, Nat.reduceAdd, Nat.reduceSub, Nat.reduceMul, Nat.reduceLeDiff, Nat.reduceLT, reduceIte, reduceCtorEq, Nat.succ_ne_zero, elemsC, Int.reduceToNat, Nat.reducePow]) | (simp (disch := (first | omega | (simp only [AL, List.length_map]; omega))) only [AR, AL, ifT, ifF, take_all, List.length_cons, List.length_nil, Int.reduceToNat, Int.reducePow, Nat.reducePow]) | (refine wk_intro (by kernel_rfl) ?_))
    rfl
  · repeat (first | (simp only [go_sem, Nat.reduceEqDiff, Nat.reduceAdd, Nat.reduceSub, Nat.reduceMul, Nat.reduceLeDiff, Nat.reduceLT, reduceIte, reduceCtorEq, Nat.succ_ne_zero, elemsC, Int.reduceToNat, Nat.reducePow]) | (simp (disch := (first | omega | (simp only [AL, List.length_map]; omega))) only [AR, AL, ifT, ifF, take_all, List.length_cons, List.length_nil, Int.reduceToNat, Int.reducePow, Nat.reducePow]) | (refine wk_intro (by kernel_rfl) ?_))
    rfl
  · repeat (first | (simp only [go_sem, Nat.reduceEqDiff, Nat.reduceAdd, Nat.reduceSub, Nat.reduceMul, Nat.reduceLeDiff, Nat.reduceLT, reduceIte, reduceCtorEq, Nat.succ_ne_zero, elemsC, Int.reduceToNat, Nat.reducePow, max_gt]) | (simp (disch := (first | omega | (simp only [AL, List.length_map]; omega))) only [AR, AL, ifT, ifF, take_all, List.length_cons, List.length_nil, Int.reduceToNat, Int.reducePow, Nat.reducePow, max_gt]) | (refine wk_intro (by kernel_rfl) ?_))
    rfl
  · repeat (first | (simp only [go_sem, Nat.reduceEqDiff, Nat.reduceAdd, Nat.reduceSub, Nat.reduceMul, Nat.reduceLeDiff, Nat.reduceLT, reduceIte, reduceCtorEq, Nat.succ_ne_zero, elemsC, Int.reduceToNat, Nat.reducePow, max_gt]) | (simp (disch := (first | omega | (simp only [AL, List.length_map]; omega))) only [AR, AL, ifT, ifF, take_all, List.length_cons, List.length_nil, Int.reduceToNat, Int.reducePow, Nat.reducePow, max_gt]) | (refine wk_intro (by kernel_rfl) ?_))
    rfl
  · repeat (first | (simp only [go_sem, Nat.reduceEqDiff, Nat.reduceAdd, Nat.reduceSub, Nat.reduceMul, Nat.reduceLeDiff, Nat.reduceLT, reduceIte, reduceCtorEq, Nat.succ_ne_zero, elemsC, Int.reduceToNat, Nat.reducePow]) | (simp (disch := (first | omega | (simp only [AL, List.length_map]; omega))) only [AR, AL, ifT, ifF, take_all, List.length_cons, List.length_nil, Int.reduceToNat, Int.reducePow, Nat.reducePow]) | (refine wk_intro (by kernel_rfl) ?_))
    rfl
  · repeat (first | (simp only [go_sem, Nat.reduceEqDiff, Nat.reduceAdd, Nat.reduceSub, Nat.reduceMul, Nat.reduceLeDiff, Nat.reduceLT, reduceIte, reduceCtorEq, Nat.succ_ne_zero, elemsC, Int.reduceToNat, Nat.reducePow]) | (simp (disch := (first | omega | (simp only [AL, List.length_map]; omega))) only [AR, AL, ifT, ifF, take_all, List.length_cons, List.length_nil, Int.reduceToNat, Int.reducePow, Nat.reducePow]) | (refine wk_intro (by kernel_rfl) ?_))
    refine vf_of (a64) ?_; repeat (first | (simp only [go_sem, Nat.reduceEqDiff, Nat.reduceAdd, Nat.reduceSub, Nat.reduceMul, Nat.reduceLeDiff, Nat.reduceLT, reduceIte, reduceCtorEq, Nat.succ_ne_zero, elemsC, Int.reduceToNat, Nat.reducePow]) | (simp (disch := (first | omega | (simp only [AL, List.length_map]; omega))) only [AR, AL, ifT, ifF, take_all, List.length_cons, List.length_nil, Int.reduceToNat, Int.reducePow, Nat.reducePow]) | (refine wk_intro (by kernel_rfl) ?_))
    rfl
  · have e : gtD k n m a = false := by
      unfold gtD
      rw [if_neg k3, if_neg k4, if_neg k5, if_neg k6, if_neg k7, if_neg k8, if_neg k9]
    rw [e]
    repeat (first | (simp only [go_sem, Nat.reduceEqDiff, Nat.reduceAdd, Nat.reduceSub, Nat.reduceMul, Nat.reduceLeDiff, Nat.reduceLT, reduceIte, reduceCtorEq, Nat.succ_ne_zero, elemsC, Int.reduceToNat, Nat.reducePow]) | (simp (disch := (first | omega | (simp only [AL, List.length_map]; omega))) only [AR, AL, ifT, ifF, take_all, List.length_cons, List.length_nil, Int.reduceToNat, Int.reducePow, Nat.reducePow]) | (refine wk_intro (by kernel_rfl) ?_))
theorem dist_Check (hA : RatA (ratV sa na da) a L) (hB : RatA (ratV sb nb db) b L) (hL : 1 ≤ L) (h : L ≤ 1048576) : Go.Ev.Fn CX 110 [distV k n m sa na da sb nb db] (.int .i64 (chkD k n m a b)) := by
  have h1 := dist_isDomain (k := k) (n := n) (m := m) hA hB hL h
  have h2 := dist_isGreat (k := k) (n := n) (m := m) (sb := sb) (nb := nb) (db := db) hA hL h
  unfold chkD
  refine Go.Ev.Fn.intro (fn := Tryz.f110) (body := (Tryz.f110).body.get!) (by kernel_rfl) (by kernel_rfl) (by kernel_rfl) (fun _ => rfl) (Nat.le_of_ble_eq_true (by kernel_rfl)) ?_; unfold Tryz.f110; simp only [Option.get!_some]
  generalize inD k n m a b = i at *
  generalize gtD k n m a = g at *
  cases i
  · repeat (first | (simp only [go_sem, Nat.reduceEqDiff, Nat.reduceAdd, Nat.reduceSub, Nat.reduceMul, Nat.reduceLeDiff, Nat.reduceLT, reduceIte, reduceCtorEq, Nat.succ_ne_zero, elemsC, Int.reduceToNat, Nat.reducePow]) | (simp (disch := (first | omega | (simp only [AL, List.length_map]; omega))) only [AR, AL, ifT, ifF, take_all, List.length_cons, List.length_nil, Int.reduceToNat, Int.reducePow, Nat.reducePow]) | (refine wk_intro (by kernel_rfl) ?_))
    refine vf_of (h1) ?_; repeat (first | (simp only [go_sem, Nat.reduceEqDiff, Nat.reduceAdd, Nat.reduceSub, Nat.reduceMul, Nat.reduceLeDiff, Nat.reduceLT, reduceIte, reduceCtorEq, Nat.succ_ne_zero, elemsC, Int.reduceToNat, Nat.reducePow, Bool.not_false]) | (simp (disch := (first | omega | (simp only [AL, List.length_map]; omega))) only [AR, AL, ifT, ifF, take_all, List.length_cons, List.length_nil, Int.reduceToNat, Int.reducePow, Nat.reducePow, Bool.not_false]) | (refine wk_intro (by kernel_rfl) ?_))
  · cases g
    · repeat (first | (simp only [go_sem, Nat.reduceEqDiff, Nat.reduceAdd, Nat.reduceSub, Nat.reduceMul, Nat.reduceLeDiff, Nat.reduceLT, reduceIte, reduceCtorEq, Nat.succ_ne_zero, elemsC, Int.reduceToNat, Nat.reducePow]) | (simp (disch := (first | omega | (simp only [AL, List.length_map]; omega))) only [AR, AL, ifT, ifF, take_all, List.length_cons, List.length_nil, Int.reduceToNat, Int.reducePow, Nat.reducePow]) | (refine wk_intro (by kernel_rfl) ?_))
      repeat (first | (simp only [go_sem, Nat.reduceEqDiff, Nat.reduceAdd, Nat.reduceSub, Nat.reduceMul, Nat.reduceLeDiff, Nat.reduceLT, reduceIte, reduceCtorEq, Nat.succ_ne_zero, elemsC, Int.reduceToNat, Nat.reducePow, Bool.not_true]) | (simp (disch := (first | omega | (simp only [AL, List.length_map]; omega))) only [AR, AL, ifT, ifF, take_all, List.length_cons, List.length_nil, Int.reduceToNat, Int.reducePow, Nat.reducePow, Bool.not_true]) | (refine wk_intro (by kernel_rfl) ?_) | (refine vf_of (by first | exact h1 | exact h2) ?_))
    · repeat (first | (simp only [go_sem, Nat.reduceEqDiff, Nat.reduceAdd, Nat.reduceSub, Nat.reduceMul, Nat.reduceLeDiff, Nat.reduceLT, reduceIte, reduceCtorEq, Nat.succ_ne_zero, elemsC, Int.reduceToNat, Nat.reducePow]) | (simp (disch := (first | omega | (simp only [AL, List.length_map]; omega))) only [AR, AL, ifT, ifF, take_all, List.length_cons, List.length_nil, Int.reduceToNat, Int.reducePow, Nat.reducePow]) | (refine wk_intro (by kernel_rfl) ?_))
      repeat (first | (simp only [go_sem, Nat.reduceEqDiff, Nat.reduceAdd, Nat.reduceSub, Nat.reduceMul, Nat.reduceLeDiff, Nat.reduceLT, reduceIte, reduceCtorEq, Nat.succ_ne_zero, elemsC, Int.reduceToNat, Nat.reducePow, Bool.not_true]) | (simp (disch := (first | omega | (simp only [AL, List.length_map]; omega))) only [AR, AL, ifT, ifF, take_all, List.length_cons, List.length_nil, Int.reduceToNat, Int.reducePow, Nat.reducePow, Bool.not_true]) | (refine wk_intro (by kernel_rfl) ?_) | (refine vf_of (by first | exact h1 | exact h2) ?_))
end
end Go.Proofs.YtemnjalaincijaaGreat

/- A distribution's mean: dist.Mean and vernierref14.Mean, in the evaluator. -/
namespace Go.Proofs.YtemnjalaincijaaGreat
set_option linter.unusedSimpArgs false
set_option linter.unusedVariables false
set_option maxRecDepth 8000
open Go.Ev
section
variable {k n m : Int} {sa sb : Bool} {na da nb db : List Nat} {a b : Rat} {L : Nat}
theorem dist_over {v w : SV} {q r : Rat} {L M : Nat} (hv : RatA v q L) (hw : RatA w r M) (hL : 1 ≤ L) (hM : 1 ≤ M) (h : L + M ≤ 268435456) : Go.Ev.Fn CX 163 [v, w] (rv (q / r)) := by
  have hd := rat_Div hv hw hL hM h
  obtain ⟨s, x, d, rfl, -⟩ := hv
  obtain ⟨s', x', d', rfl, -⟩ := hw
  refine Go.Ev.Fn.intro (fn := Tryz.f163) (body := (Tryz.f163).body.get!) (by kernel_rfl) (by kernel_rfl) (by kernel_rfl) (fun _ => rfl) (Nat.le_of_ble_eq_true (by kernel_rfl)) ?_; unfold Tryz.f163; simp only [Option.get!_some]
  repeat (first | (simp only [go_sem, Nat.reduceEqDiff, Nat.reduceAdd, Nat.reduceSub, Nat.reduceMul, Nat.reduceLeDiff, Nat.reduceLT, reduceIte, reduceCtorEq, Nat.succ_ne_zero, elemsC, Int.reduceToNat, Nat.reducePow]) | (simp (disch := (first | omega | (simp only [AL, List.length_map]; omega))) only [AR, AL, ifT, ifF, take_all, List.length_cons, List.length_nil, Int.reduceToNat, Int.reducePow, Nat.reducePow]) | (refine wk_intro (by kernel_rfl) ?_) | (refine vf_of (by first | exact hd) ?_))
theorem dist_part (n d : Int) (hn : -9223372036854775808 ≤ n ∧ n < 9223372036854775808) (hd : -9223372036854775808 ≤ d ∧ d < 9223372036854775808) : Go.Ev.Fn CX 171 [.int .i64 n, .int .i64 d] (rv ((n : Rat) / (d : Rat))) := by
  have h1 := rat_Int n hn
  have h2 := rat_Int d hd
  have ho := dist_over (RatA_rv (int_szR (n := n) (by omega))) (RatA_rv (int_szR (n := d) (by omega))) (by omega) (by omega) (by omega)
  refine Go.Ev.Fn.intro (fn := Tryz.f171) (body := (Tryz.f171).body.get!) (by kernel_rfl) (by kernel_rfl) (by kernel_rfl) (fun _ => rfl) (Nat.le_of_ble_eq_true (by kernel_rfl)) ?_; unfold Tryz.f171; simp only [Option.get!_some]
  repeat (first | (simp only [go_sem, Nat.reduceEqDiff, Nat.reduceAdd, Nat.reduceSub, Nat.reduceMul, Nat.reduceLeDiff, Nat.reduceLT, reduceIte, reduceCtorEq, Nat.succ_ne_zero, elemsC, Int.reduceToNat, Nat.reducePow]) | (simp (disch := (first | omega | (simp only [AL, List.length_map]; omega))) only [AR, AL, ifT, ifF, take_all, List.length_cons, List.length_nil, Int.reduceToNat, Int.reducePow, Nat.reducePow]) | (refine wk_intro (by kernel_rfl) ?_) | (refine vf_of (by first | exact h1 | exact h2 | exact ho) ?_))
end
end Go.Proofs.YtemnjalaincijaaGreat

/- vernierref2.Is; vernierref4: Of, Is, Width, Bit, Hold, Side, Good, Same, in the evaluator. -/
namespace Go.Proofs.YtemnjalaincijaaGreat
set_option linter.unusedSimpArgs false
set_option linter.unusedVariables false
set_option maxRecDepth 8000
open Go.Ev
section
variable {a b c d : Rat} {L M : Nat}
theorem ref4_Side0 (ha : szR a L) (hb : szR b L) (hc : szR c M) (hd : szR d M) (hL1 : 1 ≤ L) (hM1 : 1 ≤ M) (hL : L + M ≤ 100000) (h1 : c ≤ b) (h2 : a ≤ d) : Go.Ev.Fn CX 19 [ballR a b, ballR c d] (.int .i64 0) := by
  have c1 := ref2_Cmp (RatA_rv hb) (RatA_rv hc) hL1 hM1 (by omega)
  have c2 := ref2_Cmp (RatA_rv ha) (RatA_rv hd) hL1 hM1 (by omega)
  have e1 : decide (cmpR b c < 0) = false := by rw [cmpR_lt]; exact decide_eq_false (by grind)
  have e2 : decide (cmpR a d > 0) = false := by rw [cmpR_gt]; exact decide_eq_false (by grind)
  generalize cmpR b c = z1 at *
  generalize cmpR a d = z2 at *
  refine Go.Ev.Fn.intro (fn := Tryz.f19) (body := (Tryz.f19).body.get!) (by kernel_rfl) (by kernel_rfl) (by kernel_rfl) (fun _ => rfl) (Nat.le_of_ble_eq_true (by kernel_rfl)) ?_; unfold Tryz.f19; simp only [Option.get!_some]
  repeat (first | (simp only [go_sem, Nat.reduceEqDiff, Nat.reduceAdd, Nat.reduceSub, Nat.reduceMul, Nat.reduceLeDiff, Nat.reduceLT, reduceIte, reduceCtorEq, Nat.succ_ne_zero, elemsC, Int.reduceToNat, Nat.reducePow, e1, e2]) | (simp (disch := (first | omega | (simp only [AL, List.length_map]; omega))) only [AR, AL, ifT, ifF, take_all, List.length_cons, List.length_nil, Int.reduceToNat, Int.reducePow, Nat.reducePow, e1, e2]) | (refine wk_intro (by kernel_rfl) ?_) | (refine vf_of (by first | exact c1 | exact c2) ?_))
end
end Go.Proofs.YtemnjalaincijaaGreat

/- dist: one, Cdf of Normal and Exponent; vernierlaw14.DistScales, in the evaluator. -/
namespace Go.Proofs.YtemnjalaincijaaGreat
set_option linter.unusedSimpArgs false
set_option linter.unusedVariables false
set_option maxRecDepth 8000
open Go.Ev
set_option linter.unusedVariables false
theorem distE_one : Go.Ev.Fn CX 113 [] (ballR 1 1) := by
  have i1 := rat_Int 1 (by omega)
  have o := ball_Of (RatA_rv (int_szR (n := 1) (by omega))) (by omega)
  rw [show ((1 : Int) : Rat) = 1 from rfl] at i1 o
  refine Go.Ev.Fn.intro (fn := Tryz.f113) (body := (Tryz.f113).body.get!) (by kernel_rfl) (by kernel_rfl) (by kernel_rfl) (fun _ => rfl) (Nat.le_of_ble_eq_true (by kernel_rfl)) ?_; unfold Tryz.f113; simp only [Option.get!_some]
  repeat (first | (simp only [go_sem, Nat.reduceEqDiff, Nat.reduceAdd, Nat.reduceSub, Nat.reduceMul, Nat.reduceLeDiff, Nat.reduceLT, reduceIte, reduceCtorEq, Nat.succ_ne_zero, elemsC, Int.reduceToNat, Nat.reducePow]) | (simp (disch := (first | omega | (simp only [AL, List.length_map]; omega))) only [AR, AL, ifT, ifF, take_all, List.length_cons, List.length_nil, Int.reduceToNat, Int.reducePow, Nat.reducePow]) | (refine wk_intro (by kernel_rfl) ?_) | (refine vf_of (by first | exact i1 | exact o) ?_))
/-- No ball. -/
abbrev noB : SV := .agg [.bool false, .sl 0 [], .sl 0 [], .bool false, .sl 0 [], .sl 0 []]
/-- What is told of a chance: a ball, or that it is outside. -/
def cdfV (ok : Bool) (l h : Rat) : SV := if ok then .tup [ballR l h, .int .i64 0] else .tup [noB, .int .i64 7]
section
variable {v : SV} {x l h : Rat} {L P : Nat} {p : Int} {ok : Bool}
theorem distE_Cdf {k n m : Int} {sa sb : Bool} {na da nb db : List Nat} {a b : Rat} {M : Nat} (hA : RatA (ratV sa na da) a M) (hB : RatA (ratV sb nb db) b M) (hM : 1 ≤ M) (hM2 : M ≤ 1000) (hc : chkD k n m a b = 0) (hx : RatA v x L) (hp : P ≤ 200)
    (f : Go.Ev.Fn CX 111 [distV k n m sa na da sb nb db, v, .int .i64 (P : Int)] (.tup [ballR l h, .bool ok])) :
    Go.Ev.Fn CX 49 [distV k n m sa na da sb nb db, v, .int .i64 (P : Int)] (cdfV ok l h) := by
  have c := dist_Check (k := k) (n := n) (m := m) hA hB hM (by omega)
  rw [hc] at c
  have x1 : (if (0 : Int) > (P : Int) then (0 : Int) else (P : Int)) = (P : Int) := if_neg (by omega)
  have x2 : (if (200 : Int) < (P : Int) then (200 : Int) else (P : Int)) = (P : Int) := if_neg (by omega)
  clear hA hB
  obtain ⟨s, nn, dd, rfl, -⟩ := hx
  cases ok with
  | true =>
    show Go.Ev.Fn CX _ _ (.tup [ballR l h, .int .i64 0])
    refine Go.Ev.Fn.intro (fn := Tryz.f49) (body := (Tryz.f49).body.get!) (by kernel_rfl) (by kernel_rfl) (by kernel_rfl) (fun _ => rfl) (Nat.le_of_ble_eq_true (by kernel_rfl)) ?_; unfold Tryz.f49; simp only [Option.get!_some]
    repeat (first | (simp only [go_sem, Nat.reduceEqDiff, Nat.reduceAdd, Nat.reduceSub, Nat.reduceMul, Nat.reduceLeDiff, Nat.reduceLT, reduceIte, reduceCtorEq, Nat.succ_ne_zero, elemsC, Int.reduceToNat, Nat.reducePow, x1, x2, Bool.not_true]) | (simp (disch := (first | omega | (simp only [AL, List.length_map]; omega))) only [AR, AL, ifT, ifF, take_all, List.length_cons, List.length_nil, Int.reduceToNat, Int.reducePow, Nat.reducePow, x1, x2, Bool.not_true]) | (refine wk_intro (by kernel_rfl) ?_) | (refine vf_of (by first | exact c | exact f) ?_))
  | false =>
    show Go.Ev.Fn CX _ _ (.tup [noB, .int .i64 7])
    refine Go.Ev.Fn.intro (fn := Tryz.f49) (body := (Tryz.f49).body.get!) (by kernel_rfl) (by kernel_rfl) (by kernel_rfl) (fun _ => rfl) (Nat.le_of_ble_eq_true (by kernel_rfl)) ?_; unfold Tryz.f49; simp only [Option.get!_some]
    repeat (first | (simp only [go_sem, Nat.reduceEqDiff, Nat.reduceAdd, Nat.reduceSub, Nat.reduceMul, Nat.reduceLeDiff, Nat.reduceLT, reduceIte, reduceCtorEq, Nat.succ_ne_zero, elemsC, Int.reduceToNat, Nat.reducePow, x1, x2, Bool.not_false]) | (simp (disch := (first | omega | (simp only [AL, List.length_map]; omega))) only [AR, AL, ifT, ifF, take_all, List.length_cons, List.length_nil, Int.reduceToNat, Int.reducePow, Nat.reducePow, x1, x2, Bool.not_false]) | (refine wk_intro (by kernel_rfl) ?_) | (refine vf_of (by first | exact c | exact f) ?_))
theorem chance_normal {n m : Int} {sa sb : Bool} {na da nb db : List Nat} {a b : Rat} {M : Nat} (hA : RatA (ratV sa na da) a M) (hB : RatA (ratV sb nb db) b M) (hM : 1 ≤ M) (hM2 : M ≤ 1000) (hx : RatA v x L) (hL1 : 1 ≤ L) (hL : L ≤ 1000)
    (f : Go.Ev.Fn CX 40 [rv ((x - a) / b), .int .i64 p] (.tup [ballR l h, .bool ok])) :
    Go.Ev.Fn CX 111 [distV 1 n m sa na da sb nb db, v, .int .i64 p] (.tup [ballR l h, .bool ok]) := by
  have zx := szR_of hx hL1
  have za := szR_of hA hM
  have sb := rat_Sub hx hA hL1 hM (by omega)
  have ov := dist_over (RatA_rv (szR_sub zx za hL1)) hB (by omega) hM (by omega)
  clear hA hB zx za
  obtain ⟨s, nn, dd, rfl, -⟩ := hx
  generalize (x - a) / b = y at *
  generalize x - a = y2 at *
  refine Go.Ev.Fn.intro (fn := Tryz.f111) (body := (Tryz.f111).body.get!) (by kernel_rfl) (by kernel_rfl) (by kernel_rfl) (fun _ => rfl) (Nat.le_of_ble_eq_true (by kernel_rfl)) ?_; unfold Tryz.f111; simp only [Option.get!_some]
  repeat (first | (simp only [go_sem, Nat.reduceEqDiff, Nat.reduceAdd, Nat.reduceSub, Nat.reduceMul, Nat.reduceLeDiff, Nat.reduceLT, reduceIte, reduceCtorEq, Nat.succ_ne_zero, elemsC, Int.reduceToNat, Nat.reducePow]) | (simp (disch := (first | omega | (simp only [AL, List.length_map]; omega))) only [AR, AL, ifT, ifF, take_all, List.length_cons, List.length_nil, Int.reduceToNat, Int.reducePow, Nat.reducePow]) | (refine wk_intro (by kernel_rfl) ?_) | (refine vp_draw (id := 3) (l := []) (by kernel_rfl) ?_) | (refine vp_draw (id := 11) (l := []) (by kernel_rfl) ?_) | (refine vp_draw (id := 13) (l := []) (by kernel_rfl) ?_) | (refine vp_draw (id := 15) (l := []) (by kernel_rfl) ?_) | (refine vp_draw (id := 17) (l := []) (by kernel_rfl) ?_) | (refine vp_draw (id := 18) (l := []) (by kernel_rfl) ?_) | (refine vp_draw (id := 24) (l := []) (by kernel_rfl) ?_) | (refine vp_draw (id := 26) (l := []) (by kernel_rfl) ?_) | (refine vf_of (by first | exact sb | exact ov | exact f) ?_))
end
theorem nil_RatE : RatA (ratV false [] []) 0 1 := ⟨false, [], [], rfl, by simp [okL], by simp [okL], by simp, by simp, by decide +kernel⟩
theorem knownE14 : Go.Ev.Fn CX 50 [] (.bool true) := says_fn (n := 80) (by kernel_rfl)
theorem chk_normal {a b : Rat} (h : 0 < b) : chkD 1 0 0 a b = 0 := by
  unfold chkD
  rw [show inD 1 0 0 a b = decide (0 < b) from rfl, show gtD 1 0 0 a = false from rfl, decide_eq_true h]
  rfl
end Go.Proofs.YtemnjalaincijaaGreat

/- The row of beta's share: a pure function on naturals that mirrors incb.row; it ends; how wide it gets: plain mathematics. -/
namespace Go.Proofs.YtemnjalaincijaaGreat
open Go.Ev
set_option linter.unusedVariables false
/-- incb.row's rounds. -/
def rowGo (w y1 y2 a b : Nat) : Nat → Nat → Nat → Nat → Nat → Nat → Option (Nat × Nat × Nat)
  | 0, _, _, _, _, _ => none
  | f + 1, k, t1, t2, a1, a2 => if b ≤ k ∧ t2 < 8 then some (a1, a2 + 64, k) else
    rowGo w y1 y2 a b f (k + 1) (t1 * y1 / 2 ^ w * (a + b + 2 * k) / (a + 2 + 2 * k)) ((t2 * y2 / 2 ^ w + 1) * (a + b + 2 * k) / (a + 2 + 2 * k) + 1)
      (a1 + t1 * y1 / 2 ^ w * (a + b + 2 * k) / (a + 2 + 2 * k)) (a2 + ((t2 * y2 / 2 ^ w + 1) * (a + b + 2 * k) / (a + 2 + 2 * k) + 1))
section
variable {P y1 y2 t1 t2 n m : Nat}
theorem up_half (hP : 200 ≤ P) (hy : 2 * y2 ≤ P + 2) : 100 * (t2 * y2 / P) ≤ 51 * t2 := by
  have h1 := Nat.div_mul_le_self (t2 * y2) P
  have h2 := Nat.mul_le_mul_left t2 hy
  have h3 : t2 * 200 ≤ t2 * P := Nat.mul_le_mul_left _ hP
  have h4 : 100 * (t2 * y2 / P) * P ≤ 51 * t2 * P := by
    have e1 : 100 * (t2 * y2 / P) * P = 100 * (t2 * y2 / P * P) := by rw [Nat.mul_assoc]
    have e2 : t2 * (2 * y2) = 2 * (t2 * y2) := by rw [Nat.mul_left_comm]
    have e3 : t2 * (P + 2) = t2 * P + 2 * t2 := by rw [Nat.mul_add]; omega
    have e4 : 51 * t2 * P = 51 * (t2 * P) := by rw [Nat.mul_assoc]
    omega
  exact Nat.le_of_mul_le_mul_right h4 (by omega)
/-- A quotient times a number is not above what it came from. -/
theorem quo_le {v n m c d : Nat} (hm : 0 < m) (h : d * n ≤ c * m) : d * (v * n / m) ≤ c * v := by
  have h1 := Nat.div_mul_le_self (v * n) m
  have h2 : d * (v * n / m) * m ≤ c * v * m := by
    have e1 : d * (v * n / m) * m = d * (v * n / m * m) := by rw [Nat.mul_assoc]
    have e2 : d * (v * n) = v * (d * n) := by rw [Nat.mul_left_comm]
    have e3 : c * v * m = v * (c * m) := by rw [Nat.mul_assoc, Nat.mul_left_comm]
    have h3 := Nat.mul_le_mul_left v h
    have h4 := Nat.mul_le_mul_left d h1
    omega
  exact Nat.le_of_mul_le_mul_right h2 hm
theorem quo_sub {v1 v2 n m : Nat} (h : v1 ≤ v2) (hm : 0 < m) : v2 * n / m ≤ v1 * n / m + (v2 - v1) * n / m + 1 := by
  have h1 := Nat.div_add_mod (v1 * n) m
  have h2 := Nat.div_add_mod ((v2 - v1) * n) m
  have m1 := Nat.mod_lt (v1 * n) hm
  have m2 := Nat.mod_lt ((v2 - v1) * n) hm
  have e : v2 * n = v1 * n + (v2 - v1) * n := by rw [← Nat.add_mul]; congr 1; omega
  have h3 : v2 * n < (v1 * n / m + (v2 - v1) * n / m + 2) * m := by
    rw [Nat.add_mul, Nat.add_mul, Nat.mul_comm _ m, Nat.mul_comm _ m]
    omega
  have := (Nat.div_lt_iff_lt_mul hm).2 h3
  omega
end
section
variable {w y1 y2 a b : Nat}
/-- Late terms fall by a fifth. -/
theorem late_step {k t2 : Nat} (hP : 200 ≤ 2 ^ w) (hy : 2 * y2 ≤ 2 ^ w + 2) (ha : 1 ≤ a) (hb : b ≤ 20) (hk : 200 ≤ k) (ht : 8 ≤ t2) : 5 * ((t2 * y2 / 2 ^ w + 1) * (a + b + 2 * k) / (a + 2 + 2 * k) + 1) ≤ 4 * t2 := by
  have h1 := up_half (t2 := t2) hP hy
  have h2 := quo_le (v := t2 * y2 / 2 ^ w + 1) (n := a + b + 2 * k) (m := a + 2 + 2 * k) (c := 21) (d := 20) (by omega) (by omega)
  omega
theorem row_late (hP : 200 ≤ 2 ^ w) (hy : 2 * y2 ≤ 2 ^ w + 2) (ha : 1 ≤ a) (hb : b ≤ 20) : ∀ (f k t1 t2 a1 a2 : Nat), 200 ≤ k → 4 ^ f * t2 < 8 * 5 ^ f → ∃ A B K, rowGo w y1 y2 a b (f + 1) k t1 t2 a1 a2 = some (A, B, K) ∧ K ≤ k + f := by
  intro f
  induction f with
  | zero =>
    intro k t1 t2 a1 a2 hk h
    refine ⟨a1, a2 + 64, k, ?_, by omega⟩
    rw [rowGo, if_pos ⟨by omega, by omega⟩]
  | succ f ih =>
    intro k t1 t2 a1 a2 hk h
    rw [rowGo]
    by_cases hs : b ≤ k ∧ t2 < 8
    · rw [if_pos hs]
      exact ⟨_, _, _, rfl, by omega⟩
    · rw [if_neg hs]
      have h1 := late_step (k := k) (t2 := t2) hP hy ha hb hk (by omega)
      obtain ⟨A, B, K, g1, g2⟩ := ih (k + 1) (t1 * y1 / 2 ^ w * (a + b + 2 * k) / (a + 2 + 2 * k)) ((t2 * y2 / 2 ^ w + 1) * (a + b + 2 * k) / (a + 2 + 2 * k) + 1) (a1 + t1 * y1 / 2 ^ w * (a + b + 2 * k) / (a + 2 + 2 * k)) (a2 + ((t2 * y2 / 2 ^ w + 1) * (a + b + 2 * k) / (a + 2 + 2 * k) + 1)) (by omega) (by
        rw [Nat.pow_succ, Nat.pow_succ] at h
        generalize (t2 * y2 / 2 ^ w + 1) * (a + b + 2 * k) / (a + 2 + 2 * k) + 1 = u at *
        have h2 := Nat.mul_le_mul_left (4 ^ f) h1
        have e1 : 4 ^ f * (5 * u) = 5 * (4 ^ f * u) := Nat.mul_left_comm _ _ _
        have e2 : 4 ^ f * (4 * t2) = 4 ^ f * 4 * t2 := by rw [Nat.mul_assoc]
        omega)
      exact ⟨A, B, K, g1, by omega⟩
/-- An early step grows less than fourfold. -/
theorem early_up {k t2 T : Nat} (hP : 200 ≤ 2 ^ w) (hy : 2 * y2 ≤ 2 ^ w + 2) (ha : 1 ≤ a) (hb : b ≤ 20) (ht : t2 ≤ T) (hT : 100 ≤ T) : (t2 * y2 / 2 ^ w + 1) * (a + b + 2 * k) / (a + 2 + 2 * k) + 1 ≤ 4 * T := by
  have h1 := up_half (t2 := t2) hP hy
  have h2 := quo_le (v := t2 * y2 / 2 ^ w + 1) (n := a + b + 2 * k) (m := a + 2 + 2 * k) (c := 7) (d := 1) (by omega) (by omega)
  omega
theorem mid_up {k t2 T : Nat} (hP : 200 ≤ 2 ^ w) (hy : 2 * y2 ≤ 2 ^ w + 2) (ha : 1 ≤ a) (hk : b ≤ k) (ht : t2 ≤ T) (hT : 100 ≤ T) : (t2 * y2 / 2 ^ w + 1) * (a + b + 2 * k) / (a + 2 + 2 * k) + 1 ≤ T := by
  have h1 := up_half (t2 := t2) hP hy
  have h2 := quo_le (v := t2 * y2 / 2 ^ w + 1) (n := a + b + 2 * k) (m := a + 2 + 2 * k) (c := 3) (d := 2) (by omega) (by omega)
  omega
/-- How far apart a term's ends get in a step. -/
theorem gap_step {k t1 t2 C : Nat} (hP : 200 ≤ 2 ^ w) (hy12 : y2 = y1 + 1) (hy1 : 2 * y1 ≤ 2 ^ w) (ht : t1 ≤ t2) (hC : t2 ≤ C * 2 ^ w) : t2 * y2 / 2 ^ w + 1 ≤ t1 * y1 / 2 ^ w + ((t2 - t1) / 2 + C + 4) := by
  subst hy12
  generalize 2 ^ w = P at *
  have e : t2 * (y1 + 1) = t1 * y1 + ((t2 - t1) * y1 + t2) := by
    have : t2 * y1 = t1 * y1 + (t2 - t1) * y1 := by rw [← Nat.add_mul]; congr 1; omega
    rw [Nat.mul_add]; omega
  have d1 := Nat.div_add_mod (t1 * y1) P
  have d2 := Nat.mod_lt (t1 * y1) (show 0 < P by omega)
  have h1 : (t2 - t1) * y1 ≤ ((t2 - t1) / 2 + 1) * P := by
    have h3 := Nat.mul_le_mul (show t2 - t1 ≤ 2 * ((t2 - t1) / 2 + 1) by omega) (Nat.le_refl y1)
    have h4 := Nat.mul_le_mul_left ((t2 - t1) / 2 + 1) hy1
    have e5 : 2 * ((t2 - t1) / 2 + 1) * y1 = ((t2 - t1) / 2 + 1) * (2 * y1) := by rw [Nat.mul_comm 2, Nat.mul_assoc]
    omega
  have h2 : t2 * (y1 + 1) < (t1 * y1 / P + ((t2 - t1) / 2 + C + 3)) * P := by
    have e6 : (t1 * y1 / P + ((t2 - t1) / 2 + C + 3)) * P = P * (t1 * y1 / P) + ((t2 - t1) / 2 + 1) * P + C * P + 2 * P := by
      have : (t2 - t1) / 2 + C + 3 = ((t2 - t1) / 2 + 1) + C + 2 := by omega
      rw [this]; simp only [Nat.add_mul]; rw [Nat.mul_comm _ P]; omega
    omega
  have := (Nat.div_lt_iff_lt_mul (show 0 < P by omega)).2 h2
  omega
theorem gap_quo {k v1 v2 D : Nat} (hv : v1 ≤ v2) (hm : 0 < a + 2 + 2 * k) {c d : Nat} (hd : 0 < d) (h : d * (a + b + 2 * k) ≤ c * (a + 2 + 2 * k)) (hD : v2 ≤ v1 + D) : d * (v2 * (a + b + 2 * k) / (a + 2 + 2 * k) + 1) ≤ d * (v1 * (a + b + 2 * k) / (a + 2 + 2 * k)) + c * D + 2 * d := by
  have h1 := quo_sub (n := a + b + 2 * k) (m := a + 2 + 2 * k) hv hm
  have h2 := quo_le (v := v2 - v1) hm h
  have h3 : c * (v2 - v1) ≤ c * D := Nat.mul_le_mul_left _ (by omega)
  generalize v2 * (a + b + 2 * k) / (a + 2 + 2 * k) = q2 at *
  generalize v1 * (a + b + 2 * k) / (a + 2 + 2 * k) = q1 at *
  generalize (v2 - v1) * (a + b + 2 * k) / (a + 2 + 2 * k) = q3 at *
  have h4 := Nat.mul_le_mul_left d h1
  have e1 : d * (q1 + q3 + 1) = d * q1 + d * q3 + d := by rw [Nat.mul_add, Nat.mul_add, Nat.mul_one]
  have e2 : d * (q2 + 1) = d * q2 + d := by rw [Nat.mul_add, Nat.mul_one]
  omega
/-- Terms, and what they sum to, in a row's first rounds and in its later ones. -/
def okT (w k t1 t2 a1 a2 T D : Nat) : Prop := t1 ≤ t2 ∧ a1 ≤ a2 ∧ t2 ≤ T ∧ t2 ≤ t1 + D ∧ a2 ≤ a1 + k * D + D ∧ a2 ≤ (k + 1) * T
theorem okT_early {k t1 t2 a1 a2 T D C : Nat} (hP : 200 ≤ 2 ^ w) (hy12 : y2 = y1 + 1) (hy1 : 2 * y1 ≤ 2 ^ w) (ha : 1 ≤ a) (hb : b ≤ 20) (hT : 100 ≤ T) (hC : T ≤ C * 2 ^ w) (hD : 14 * C + 62 ≤ D) (h : okT w k t1 t2 a1 a2 T D) :
    okT w (k + 1) (t1 * y1 / 2 ^ w * (a + b + 2 * k) / (a + 2 + 2 * k)) ((t2 * y2 / 2 ^ w + 1) * (a + b + 2 * k) / (a + 2 + 2 * k) + 1)
      (a1 + t1 * y1 / 2 ^ w * (a + b + 2 * k) / (a + 2 + 2 * k)) (a2 + ((t2 * y2 / 2 ^ w + 1) * (a + b + 2 * k) / (a + 2 + 2 * k) + 1)) (4 * T) (4 * D) := by
  obtain ⟨h1, h2, h3, h4, h5, h6⟩ := h
  have u := early_up (k := k) hP (show 2 * y2 ≤ 2 ^ w + 2 by omega) ha hb h3 hT
  have g := gap_step (k := k) hP hy12 hy1 h1 (Nat.le_trans h3 hC)
  have v12 : t1 * y1 / 2 ^ w ≤ t2 * y2 / 2 ^ w + 1 := Nat.le_succ_of_le (Nat.div_le_div_right (Nat.mul_le_mul h1 (by omega)))
  have q := gap_quo (a := a) (b := b) (k := k) (c := 7) (d := 1) v12 (by omega) (by omega) (by omega) g
  have q0 : t1 * y1 / 2 ^ w * (a + b + 2 * k) / (a + 2 + 2 * k) ≤ (t2 * y2 / 2 ^ w + 1) * (a + b + 2 * k) / (a + 2 + 2 * k) := Nat.div_le_div_right (Nat.mul_le_mul_right _ v12)
  generalize t1 * y1 / 2 ^ w * (a + b + 2 * k) / (a + 2 + 2 * k) = u1 at *
  generalize (t2 * y2 / 2 ^ w + 1) * (a + b + 2 * k) / (a + 2 + 2 * k) = u2 at *
  have e1 : (k + 1) * (4 * D) = 4 * (k * D) + 4 * D := by rw [Nat.add_mul, Nat.mul_left_comm]; omega
  have e2 : (k + 1 + 1) * (4 * T) = 4 * ((k + 1) * T) + 4 * T := by rw [Nat.add_mul, Nat.mul_left_comm]; omega
  have e3 : (k + 1) * T = k * T + T := by rw [Nat.add_mul]; omega
  refine ⟨?_, ?_, ?_, ?_, ?_, ?_⟩ <;> omega
theorem okT_mid {k t1 t2 a1 a2 T D C : Nat} (hP : 200 ≤ 2 ^ w) (hy12 : y2 = y1 + 1) (hy1 : 2 * y1 ≤ 2 ^ w) (ha : 1 ≤ a) (hk : b ≤ k) (hT : 100 ≤ T) (hC : T ≤ C * 2 ^ w) (hD : 14 * C + 62 ≤ D) (h : okT w k t1 t2 a1 a2 T D) :
    okT w (k + 1) (t1 * y1 / 2 ^ w * (a + b + 2 * k) / (a + 2 + 2 * k)) ((t2 * y2 / 2 ^ w + 1) * (a + b + 2 * k) / (a + 2 + 2 * k) + 1)
      (a1 + t1 * y1 / 2 ^ w * (a + b + 2 * k) / (a + 2 + 2 * k)) (a2 + ((t2 * y2 / 2 ^ w + 1) * (a + b + 2 * k) / (a + 2 + 2 * k) + 1)) T D := by
  obtain ⟨h1, h2, h3, h4, h5, h6⟩ := h
  have u := mid_up (k := k) hP (show 2 * y2 ≤ 2 ^ w + 2 by omega) ha hk h3 hT
  have g := gap_step (k := k) hP hy12 hy1 h1 (Nat.le_trans h3 hC)
  have v12 : t1 * y1 / 2 ^ w ≤ t2 * y2 / 2 ^ w + 1 := Nat.le_succ_of_le (Nat.div_le_div_right (Nat.mul_le_mul h1 (by omega)))
  have q := gap_quo (a := a) (b := b) (k := k) (c := 3) (d := 2) v12 (by omega) (by omega) (by omega) g
  have q0 : t1 * y1 / 2 ^ w * (a + b + 2 * k) / (a + 2 + 2 * k) ≤ (t2 * y2 / 2 ^ w + 1) * (a + b + 2 * k) / (a + 2 + 2 * k) := Nat.div_le_div_right (Nat.mul_le_mul_right _ v12)
  generalize t1 * y1 / 2 ^ w * (a + b + 2 * k) / (a + 2 + 2 * k) = u1 at *
  generalize (t2 * y2 / 2 ^ w + 1) * (a + b + 2 * k) / (a + 2 + 2 * k) = u2 at *
  have e1 : (k + 1) * D = k * D + D := by rw [Nat.add_mul]; omega
  have e2 : (k + 1 + 1) * T = (k + 1) * T + T := by rw [Nat.add_mul]; omega
  refine ⟨?_, ?_, ?_, ?_, ?_, ?_⟩ <;> omega
/-- The row ends; and what it ends in. -/
theorem row_mid {C T D : Nat} (hP : 200 ≤ 2 ^ w) (hy12 : y2 = y1 + 1) (hy1 : 2 * y1 ≤ 2 ^ w) (ha : 1 ≤ a) (hb : b ≤ 20) (hT : 100 ≤ T) (hC : T ≤ C * 2 ^ w) (hD : 14 * C + 62 ≤ D) {F : Nat} (hF : 4 ^ F * T < 8 * 5 ^ F) :
    ∀ (g k t1 t2 a1 a2 : Nat), b ≤ k → g + k = 200 → okT w k t1 t2 a1 a2 T D → ∃ A B K, rowGo w y1 y2 a b (g + F + 1) k t1 t2 a1 a2 = some (A, B, K) := by
  intro g
  induction g with
  | zero =>
    intro k t1 t2 a1 a2 hk hg h
    obtain ⟨A, B, K, e, -⟩ := row_late hP (show 2 * y2 ≤ 2 ^ w + 2 by omega) ha hb F k t1 t2 a1 a2 (by omega) (Nat.lt_of_le_of_lt (Nat.mul_le_mul_left _ h.2.2.1) hF)
    exact ⟨A, B, K, by rw [Nat.zero_add]; exact e⟩
  | succ g ih =>
    intro k t1 t2 a1 a2 hk hg h
    rw [show g + 1 + F + 1 = (g + F + 1) + 1 by omega, rowGo]
    by_cases hs : b ≤ k ∧ t2 < 8
    · rw [if_pos hs]; exact ⟨_, _, _, rfl⟩
    · rw [if_neg hs]
      exact ih _ _ _ _ _ (by omega) (by omega) (okT_mid hP hy12 hy1 ha hk hT hC hD h)
theorem row_early {C F : Nat} (hP : 200 ≤ 2 ^ w) (hy12 : y2 = y1 + 1) (hy1 : 2 * y1 ≤ 2 ^ w) (ha : 1 ≤ a) (hb : b ≤ 20) :
    ∀ (g k t1 t2 a1 a2 T D : Nat), k + g = b → 100 ≤ T → 4 ^ g * T ≤ C * 2 ^ w → 14 * C + 62 ≤ D → 4 ^ F * (4 ^ g * T) < 8 * 5 ^ F → okT w k t1 t2 a1 a2 T D → ∃ A B K, rowGo w y1 y2 a b (200 + F + 1 - k) k t1 t2 a1 a2 = some (A, B, K) := by
  intro g
  induction g with
  | zero =>
    intro k t1 t2 a1 a2 T D hk hT hC hD hF h
    rw [Nat.pow_zero, Nat.one_mul] at hC hF
    have := row_mid hP hy12 hy1 ha hb hT hC hD hF (200 - k) k t1 t2 a1 a2 (by omega) (by omega) h
    rw [show 200 - k + F + 1 = 200 + F + 1 - k by omega] at this
    exact this
  | succ g ih =>
    intro k t1 t2 a1 a2 T D hk hT hC hD hF h
    rw [show 200 + F + 1 - k = (200 + F + 1 - (k + 1)) + 1 by omega, rowGo, if_neg (by omega)]
    have hp : 1 ≤ 4 ^ (g + 1) := Nat.pow_pos (by omega)
    have hTC : T ≤ C * 2 ^ w := Nat.le_trans (Nat.le_mul_of_pos_left T hp) hC
    have hp2 : 4 ^ g * (4 * T) = 4 ^ (g + 1) * T := by rw [Nat.pow_succ, Nat.mul_assoc]
    exact ih (k + 1) _ _ _ _ (4 * T) (4 * D) (by omega) (by omega) (by rw [hp2]; exact hC) (by omega) (by rw [hp2]; exact hF) (okT_early hP hy12 hy1 ha hb hT hTC hD h)
end
end Go.Proofs.YtemnjalaincijaaGreat

/- The row of beta's share: what it ends in, what lies in it; powers: plain mathematics. -/
namespace Go.Proofs.YtemnjalaincijaaGreat
open Go.Ev
set_option linter.unusedVariables false
section
variable {w y1 y2 a b T D C : Nat}
def okK (w b T D k t1 t2 a1 a2 : Nat) : Prop := okT w k t1 t2 a1 a2 (4 ^ min k b * T) (4 ^ min k b * D)
theorem four_le {k b T : Nat} : T ≤ 4 ^ min k b * T ∧ 4 ^ min k b * T ≤ 4 ^ b * T :=
  ⟨Nat.le_mul_of_pos_left T (Nat.pow_pos (by omega)), Nat.mul_le_mul_right T (Nat.pow_le_pow_right (by omega) (Nat.min_le_right k b))⟩
theorem okK_step {k t1 t2 a1 a2 : Nat} (hP : 200 ≤ 2 ^ w) (hy12 : y2 = y1 + 1) (hy1 : 2 * y1 ≤ 2 ^ w) (ha : 1 ≤ a) (hb : b ≤ 20) (hT : 100 ≤ T) (hC : 4 ^ b * T ≤ C * 2 ^ w) (hD : 14 * C + 62 ≤ D) (h : okK w b T D k t1 t2 a1 a2) :
    okK w b T D (k + 1) (t1 * y1 / 2 ^ w * (a + b + 2 * k) / (a + 2 + 2 * k)) ((t2 * y2 / 2 ^ w + 1) * (a + b + 2 * k) / (a + 2 + 2 * k) + 1)
      (a1 + t1 * y1 / 2 ^ w * (a + b + 2 * k) / (a + 2 + 2 * k)) (a2 + ((t2 * y2 / 2 ^ w + 1) * (a + b + 2 * k) / (a + 2 + 2 * k) + 1)) := by
  have f1 := four_le (k := k) (b := b) (T := T)
  have f2 := four_le (k := k) (b := b) (T := D)
  unfold okK at h ⊢
  by_cases hk : b ≤ k
  · rw [Nat.min_eq_right (show b ≤ k + 1 by omega)]
    rw [Nat.min_eq_right hk] at h f1 f2
    exact okT_mid hP hy12 hy1 ha hk (by omega) hC (by omega) h
  · rw [Nat.min_eq_left (show k + 1 ≤ b by omega), show 4 ^ (k + 1) * T = 4 * (4 ^ k * T) by rw [Nat.pow_succ, Nat.mul_comm (4 ^ k) 4, Nat.mul_assoc], show 4 ^ (k + 1) * D = 4 * (4 ^ k * D) by rw [Nat.pow_succ, Nat.mul_comm (4 ^ k) 4, Nat.mul_assoc]]
    rw [Nat.min_eq_left (show k ≤ b by omega)] at h f1 f2
    exact okT_early hP hy12 hy1 ha hb (by omega) (Nat.le_trans f1.2 hC) (by omega) h
theorem row_inv (hP : 200 ≤ 2 ^ w) (hy12 : y2 = y1 + 1) (hy1 : 2 * y1 ≤ 2 ^ w) (ha : 1 ≤ a) (hb : b ≤ 20) (hT : 100 ≤ T) (hC : 4 ^ b * T ≤ C * 2 ^ w) (hD : 14 * C + 62 ≤ D) :
    ∀ (f k t1 t2 a1 a2 : Nat) {A B K : Nat}, rowGo w y1 y2 a b f k t1 t2 a1 a2 = some (A, B, K) → okK w b T D k t1 t2 a1 a2 → K < k + f ∧ A ≤ B ∧ B ≤ A + (K + 1) * (4 ^ b * D) + 64 ∧ B ≤ (K + 1) * (4 ^ b * T) + 64 := by
  intro f
  induction f with
  | zero => intro k t1 t2 a1 a2 A B K h; simp only [rowGo] at h; cases h
  | succ f ih =>
    intro k t1 t2 a1 a2 A B K h ho
    rw [rowGo] at h
    by_cases hs : b ≤ k ∧ t2 < 8
    · rw [if_pos hs] at h
      simp only [Option.some.injEq, Prod.mk.injEq] at h
      obtain ⟨rfl, rfl, rfl⟩ := h
      obtain ⟨h1, h2, h3, h4, h5, h6⟩ := ho
      rw [Nat.min_eq_right hs.1] at h5 h6
      rw [Nat.add_mul, Nat.one_mul]
      rw [Nat.add_mul, Nat.one_mul] at h6
      rw [Nat.add_mul, Nat.one_mul]
      omega
    · rw [if_neg hs] at h
      have := ih _ _ _ _ _ h (okK_step hP hy12 hy1 ha hb hT hC hD ho)
      omega
/-- A term by the first one. -/
def rR (x : Rat) (a b : Nat) : Nat → Rat
  | 0 => 1
  | k + 1 => rR x a b k * x * ((a + b + 2 * k : Nat) : Rat) / ((a + 2 + 2 * k : Nat) : Rat)
/-- Terms' sum by the first one. -/
def sR (x : Rat) (a b : Nat) : Nat → Rat
  | 0 => 1
  | k + 1 => sR x a b k + rR x a b (k + 1)
theorem row_enc {x c : Rat} (hx : Enc w y1 y2 x) : ∀ (f k t1 t2 a1 a2 : Nat) {A B K : Nat}, rowGo w y1 y2 a b f k t1 t2 a1 a2 = some (A, B, K) → Enc w t1 t2 (c * rR x a b k) → Enc w a1 a2 (c * sR x a b k) →
    b ≤ K ∧ (A : Rat) ≤ c * sR x a b K * p2 w ∧ c * sR x a b K * p2 w + 64 ≤ (B : Rat) ∧ c * rR x a b K * p2 w ≤ 8 := by
  intro f
  induction f with
  | zero => intro k t1 t2 a1 a2 A B K h; simp only [rowGo] at h; cases h
  | succ f ih =>
    intro k t1 t2 a1 a2 A B K h ht ha
    rw [rowGo] at h
    by_cases hs : b ≤ k ∧ t2 < 8
    · rw [if_pos hs] at h
      simp only [Option.some.injEq, Prod.mk.injEq] at h
      obtain ⟨rfl, rfl, rfl⟩ := h
      refine ⟨hs.1, ha.1, ?_, ?_⟩
      · have h1 := ha.2
        have h2 : ((a2 + 64 : Nat) : Rat) = (a2 : Rat) + 64 := by exact_mod_cast rfl
        rw [h2]
        grind
      · have h1 := ht.2
        have h2 : (t2 : Rat) ≤ ((8 : Nat) : Rat) := (show ((t2 : Nat) : Rat) ≤ ((8 : Nat) : Rat) by exact_mod_cast (show t2 ≤ 8 by omega))
        exact Rat.le_trans h1 h2
    · rw [if_neg hs] at h
      have m := enc_times (n := a + b + 2 * k) (d := a + 2 + 2 * k) (by omega) (enc_mul ht hx)
      have e : c * rR x a b k * x * ((a + b + 2 * k : Nat) : Rat) / ((a + 2 + 2 * k : Nat) : Rat) = c * rR x a b (k + 1) := by
        show _ = c * (rR x a b k * x * ((a + b + 2 * k : Nat) : Rat) / ((a + 2 + 2 * k : Nat) : Rat))
        rw [Rat.div_def, Rat.div_def]
        grind
      rw [e] at m
      have s := enc_add ha m
      have e2 : c * sR x a b k + c * rR x a b (k + 1) = c * sR x a b (k + 1) := by
        show _ = c * (sR x a b k + rR x a b (k + 1))
        grind
      rw [e2] at s
      exact ih _ _ _ _ _ h m s
end
/-- A number so many times by itself. -/
def pwR (q : Rat) : Nat → Rat
  | 0 => 1
  | n + 1 => pwR q n * q
theorem pwR_two (q : Rat) (n : Nat) : pwR (q * q) n = pwR q (2 * n) := by
  induction n with
  | zero => rfl
  | succ n ih =>
    show pwR (q * q) n * (q * q) = pwR q (2 * n) * q * q
    rw [ih]; grind
/-- fix.Power's rounds. -/
def powGo (w : Nat) : Nat → Nat → Nat → Nat → Nat → Nat → Nat × Nat
  | 0, _, l1, l2, _, _ => (l1, l2)
  | f + 1, n, l1, l2, a1, a2 => if n = 0 then (l1, l2) else
    if n % 2 = 1 then powGo w f (n / 2) (l1 * a1 / 2 ^ w) (l2 * a2 / 2 ^ w + 1) (a1 * a1 / 2 ^ w) (a2 * a2 / 2 ^ w + 1)
    else powGo w f (n / 2) l1 l2 (a1 * a1 / 2 ^ w) (a2 * a2 / 2 ^ w + 1)
theorem powGo_zero (w f l1 l2 a1 a2 : Nat) : powGo w f 0 l1 l2 a1 a2 = (l1, l2) := by cases f <;> rfl
theorem powGo_enc {w : Nat} : ∀ (f n l1 l2 a1 a2 : Nat) {p q : Rat}, n < 2 ^ f → Enc w l1 l2 p → Enc w a1 a2 q → Enc w (powGo w f n l1 l2 a1 a2).1 (powGo w f n l1 l2 a1 a2).2 (p * pwR q n) := by
  intro f
  induction f with
  | zero =>
    intro n l1 l2 a1 a2 p q hn hl ha
    obtain rfl : n = 0 := by omega
    rw [powGo_zero]
    show Enc w l1 l2 (p * 1)
    rw [Rat.mul_one]; exact hl
  | succ f ih =>
    intro n l1 l2 a1 a2 p q hn hl ha
    rw [Nat.pow_succ] at hn
    rw [powGo]
    by_cases h0 : n = 0
    · subst h0
      rw [if_pos rfl]
      show Enc w l1 l2 (p * 1)
      rw [Rat.mul_one]; exact hl
    · rw [if_neg h0]
      by_cases h1 : n % 2 = 1
      · rw [if_pos h1]
        have := ih (n / 2) _ _ _ _ (by omega) (enc_mul hl ha) (enc_mul ha ha)
        rw [pwR_two] at this
        have e : pwR q n = pwR q (2 * (n / 2)) * q := by
          conv => lhs; rw [show n = 2 * (n / 2) + 1 by omega]
          rfl
        rw [e]
        have e2 : p * q * pwR q (2 * (n / 2)) = p * (pwR q (2 * (n / 2)) * q) := by grind
        rw [e2] at this
        exact this
      · rw [if_neg h1]
        have := ih (n / 2) _ _ _ _ (by omega) hl (enc_mul ha ha)
        rw [pwR_two, show 2 * (n / 2) = n by omega] at this
        exact this
/-- A number that is at most a little above 1, known up to a little. -/
def okS (P a b e : Nat) : Prop := a ≤ b ∧ b ≤ a + e ∧ b ≤ P + e
theorem okS_mul {P a b c d e g : Nat} (hP : 1000000 ≤ P) (he : e ≤ 1000) (hg : g ≤ 1000) (h : okS P a b e) (h2 : okS P c d g) : okS P (a * c / P) (b * d / P + 1) (2 * (e + g) + 2) := by
  obtain ⟨h1, h3, h4⟩ := h
  obtain ⟨k1, k3, k4⟩ := h2
  have hP0 : 0 < P := by omega
  have m1 := Nat.mul_le_mul h1 k1
  refine ⟨Nat.le_succ_of_le (Nat.div_le_div_right m1), ?_, ?_⟩
  · -- the gap
    have d1 := Nat.div_add_mod (a * c) P
    have d2 := Nat.mod_lt (a * c) hP0
    have e1 : b * d ≤ a * c + (e * d + b * g) := by
      have x1 : b * d ≤ (a + e) * d := Nat.mul_le_mul_right d h3
      have x2 : a * d ≤ a * (c + g) := Nat.mul_le_mul_left a k3
      have x3 : a * g ≤ b * g := Nat.mul_le_mul_right g h1
      rw [Nat.add_mul] at x1
      rw [Nat.mul_add] at x2
      omega
    have e2 : e * d ≤ e * (2 * P) := Nat.mul_le_mul_left e (by omega)
    have e3 : b * g ≤ 2 * P * g := Nat.mul_le_mul_right g (by omega)
    have e4 : b * d < (a * c / P + (2 * (e + g) + 2)) * P := by
      have y1 : (a * c / P + (2 * (e + g) + 2)) * P = P * (a * c / P) + (e * (2 * P) + 2 * P * g + 2 * P) := by
        rw [Nat.add_mul, Nat.mul_comm _ P]
        congr 1
        grind
      omega
    have := (Nat.div_lt_iff_lt_mul hP0).2 e4
    omega
  · have e1 : b * d ≤ (P + e) * (P + g) := Nat.mul_le_mul h4 k4
    have e2 : (P + e) * (P + g) = P * P + (e + g) * P + e * g := by grind
    have e3 : e * g ≤ 1000 * 1000 := Nat.mul_le_mul he hg
    have e4 : b * d < (P + (e + g) + 2) * P := by
      have : (P + (e + g) + 2) * P = P * P + (e + g) * P + 2 * P := by rw [Nat.add_mul, Nat.add_mul]
      omega
    have := (Nat.div_lt_iff_lt_mul hP0).2 e4
    omega
theorem okS_mono {P a b e g : Nat} (h : okS P a b e) (hg : e ≤ g) : okS P a b g := ⟨h.1, Nat.le_trans h.2.1 (by omega), Nat.le_trans h.2.2 (by omega)⟩
theorem powGo_ok {w : Nat} (hP : 1000000 ≤ 2 ^ w) : ∀ (f n l1 l2 a1 a2 E : Nat), (E + 1) * 4 ^ f ≤ 512 → okS (2 ^ w) l1 l2 E → okS (2 ^ w) a1 a2 E → okS (2 ^ w) (powGo w f n l1 l2 a1 a2).1 (powGo w f n l1 l2 a1 a2).2 511 := by
  intro f
  induction f with
  | zero =>
    intro n l1 l2 a1 a2 E hE hl ha
    rw [Nat.pow_zero] at hE
    exact okS_mono hl (by omega)
  | succ f ih =>
    intro n l1 l2 a1 a2 E hE hl ha
    have hp : 1 ≤ 4 ^ f := Nat.pow_pos (by omega)
    rw [Nat.pow_succ] at hE
    have hE2 : (4 * E + 2 + 1) * 4 ^ f ≤ 512 := Nat.le_trans (Nat.mul_le_mul_right _ (show 4 * E + 2 + 1 ≤ (E + 1) * 4 by omega)) (by rw [Nat.mul_assoc, Nat.mul_comm 4]; exact hE)
    have hE1 : E ≤ 1000 := by
      have := Nat.le_mul_of_pos_right (E + 1) (show 0 < 4 ^ f * 4 by omega)
      omega
    have sq := okS_mul hP hE1 hE1 ha ha
    have ml := okS_mul hP hE1 hE1 hl ha
    rw [show 2 * (E + E) + 2 = 4 * E + 2 by omega] at sq ml
    rw [powGo]
    by_cases h0 : n = 0
    · rw [if_pos h0]
      exact okS_mono hl (by have := Nat.le_mul_of_pos_right (E + 1) (show 0 < 4 ^ f * 4 by omega); omega)
    · rw [if_neg h0]
      by_cases h1 : n % 2 = 1
      · rw [if_pos h1]
        exact ih _ _ _ _ _ _ hE2 ml sq
      · rw [if_neg h1]
        exact ih _ _ _ _ _ _ hE2 (okS_mono hl (by omega)) sq
end Go.Proofs.YtemnjalaincijaaGreat
