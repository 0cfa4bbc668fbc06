/- Part 11 of the proof: the evaluator, contracts of functions and their plain laws (joined by program). No condition. -/
import Derived.Test.YtemnjalaincijaaGreatPart10
set_option linter.unusedVariables false
set_option linter.unusedSimpArgs false
set_option maxRecDepth 100000
namespace Go.Proofs.YtemnjalaincijaaGreat
open Go.Ev
def nRowQ (w Y1 Y2 : Nat) : Nat → Nat → Nat → Nat → Nat → Nat → Nat → Nat → Option (Nat × Nat × Nat × Nat)
  | 0, _, _, _, _, _, _, _ => none
  | f + 1, i, t1, t2, a1, a2, b1, b2 => pin (t1 * Y1 / 2 ^ w / i) fun u1 => pin (cdv (cdv (t2 * Y2) (2 ^ w)) i) fun u2 => pin (i + 1) fun i' =>
    if i % 2 = 1 then pin (b1 + u1) fun c1 => pin (b2 + u2) fun c2 => if u2 ≤ 2 then some (a1, a2, c1, c2) else nRowQ w Y1 Y2 f i' u1 u2 a1 a2 c1 c2
    else pin (a1 + u1) fun c1 => pin (a2 + u2) fun c2 => if u2 ≤ 2 then some (c1, c2, b1, b2) else nRowQ w Y1 Y2 f i' u1 u2 c1 c2 b1 b2
theorem nRowQ_is {w Y1 Y2 : Nat} : ∀ (f i t1 t2 a1 a2 b1 b2 : Nat) {p1 p2 q1 q2 : Nat}, nRowQ w Y1 Y2 f i t1 t2 a1 a2 b1 b2 = some (p1, p2, q1, q2) → nRow w Y1 Y2 f i t1 t2 ((a1 : Int) - b2) ((a2 : Int) - b1) = some ((p1 : Int) - q2 - 4, (p2 : Int) - q1 + 4) := by
  intro f
  induction f with
  | zero => intro i t1 t2 a1 a2 b1 b2 p1 p2 q1 q2 h; cases h
  | succ f ih =>
    intro i t1 t2 a1 a2 b1 b2 p1 p2 q1 q2 h
    rw [nRowQ] at h
    rw [pin_eq, pin_eq, pin_eq] at h
    rw [nRow]
    generalize t1 * Y1 / 2 ^ w / i = u1 at *
    generalize cdv (cdv (t2 * Y2) (2 ^ w)) i = u2 at *
    by_cases g : i % 2 = 1
    · rw [if_pos g, pin_eq, pin_eq] at h
      rw [if_pos g, if_pos g]
      by_cases k : u2 ≤ 2
      · rw [if_pos k] at h ⊢
        simp only [Option.some.injEq, Prod.mk.injEq] at h ⊢
        omega
      · rw [if_neg k] at h ⊢
        have := ih _ _ _ _ _ _ _ h
        rw [show (a1 : Int) - b2 - u2 = (a1 : Int) - ((b2 + u2 : Nat) : Int) by omega, show (a2 : Int) - b1 - u1 = (a2 : Int) - ((b1 + u1 : Nat) : Int) by omega]
        exact this
    · rw [if_neg g, pin_eq, pin_eq] at h
      rw [if_neg g, if_neg g]
      by_cases k : u2 ≤ 2
      · rw [if_pos k] at h ⊢
        simp only [Option.some.injEq, Prod.mk.injEq] at h ⊢
        omega
      · rw [if_neg k] at h ⊢
        have := ih _ _ _ _ _ _ _ h
        rw [show (a1 : Int) - b2 + u1 = ((a1 + u1 : Nat) : Int) - b2 by omega, show (a2 : Int) - b1 + u2 = ((a2 + u2 : Nat) : Int) - b1 by omega]
        exact this
def sqnP (w : Nat) : Nat → Nat → Nat → Nat × Nat
  | 0, a, b => (a, b)
  | k + 1, a, b => pin (a * a / 2 ^ w) fun a' => pin (cdv (b * b) (2 ^ w)) fun b' => sqnP w k a' b'
theorem sqnP_is {w : Nat} : ∀ k a b : Nat, sqnP w k a b = sqn w k a b
  | 0, _, _ => rfl
  | k + 1, a, b => by rw [sqnP, pin_eq, pin_eq]; exact sqnP_is k _ _
def exOk : Bool := match nRowQ 210 (2 ^ 202) (2 ^ 202) 108 1 (2 ^ 210) (2 ^ 210) (2 ^ 210) (2 ^ 210) 0 0 with
  | some (p1, p2, q1, q2) => Nat.ble (q2 + 4) p1 && (Nat.ble q1 p2 && pin (p1 - q2 - 4) fun a => pin (p2 - q1 + 4) fun b => match sqnP 210 8 a b with | (r1, r2) => Nat.beq (r1 / 2 ^ 130 / 2 ^ 20) (cdv r2 (2 ^ 130) / 2 ^ 20))
  | none => false
theorem ex_ok : exOk = true := by kernel_rfl
theorem ex_cert {A0 B0 : Nat} {N M : Nat} (hN : N = 210) (hM : M = 2 ^ 202) (h : nRow N M M 108 1 (2 ^ N) (2 ^ N) (2 ^ N : Nat) (2 ^ N : Nat) = some ((A0 : Int), (B0 : Int))) : (sqn N 8 A0 B0).1 / 2 ^ 130 / 2 ^ 20 = cdv (sqn N 8 A0 B0).2 (2 ^ 130) / 2 ^ 20 := by
  have k := ex_ok
  unfold exOk at k
  rw [← hN, ← hM] at k
  split at k
  · rename_i p1 p2 q1 q2 hq
    have z := nRowQ_is _ _ _ _ _ _ _ _ hq
    rw [Bool.and_eq_true, Bool.and_eq_true, pin_eq, pin_eq, sqnP_is] at k
    obtain ⟨k1, k2, k3⟩ := k
    have k1 := Nat.le_of_ble_eq_true k1
    have k2 := Nat.le_of_ble_eq_true k2
    rw [show ((2 ^ N : Nat) : Int) - ((0 : Nat) : Int) = ((2 ^ N : Nat) : Int) by omega, h] at z
    simp only [Option.some.injEq, Prod.mk.injEq] at z
    obtain ⟨z1, z2⟩ := z
    rw [show p1 - q2 - 4 = A0 by omega, show p2 - q1 + 4 = B0 by omega] at k3
    exact Nat.eq_of_beq_eq_true k3
  · cases k
theorem ref4_Floor {A B w p : Nat} (lA : (lim A).length ≤ 1000) (lB : (lim B).length ≤ 1000) (hp : p < w) (hw : w ≤ 4096) : Go.Ev.Fn CX 87 [ivN A B, .int .i64 (w : Int), .int .i64 (p : Int)] (.tup [ballR (mkRat ((A / 2 ^ (w - p) : Nat) : Int) (2 ^ p)) (mkRat ((A / 2 ^ (w - p) + 1 : Nat) : Int) (2 ^ p)), .bool (decide (A / 2 ^ (w - p) = B / 2 ^ (w - p)))]) := by
  have a := ref4_Less (A : Int) (w - p) (by rw [Int.natAbs_natCast]; omega) (by omega) (by omega)
  have b := ref4_Less (B : Int) (w - p) (by rw [Int.natAbs_natCast]; omega) (by omega) (by omega)
  rw [← Int.natCast_ediv, intN_eq, intN_eq] at a b
  have l1 := lim_len_mono (Nat.div_le_self A (2 ^ (w - p)))
  have l2 := lim_len_mono (Nat.div_le_self B (2 ^ (w - p)))
  generalize A / 2 ^ (w - p) = m at *
  generalize B / 2 ^ (w - p) = m' at *
  have r1 := ref4_Rat (a := (m : Int)) (by rw [Int.natAbs_natCast]; omega) p (by omega)
  have w1 := ref4_Whole 1 (by omega)
  have lo := lim_len1
  have pl := ref4_Plus (m : Int) ((1 : Nat) : Int) (by rw [Int.natAbs_natCast]; omega) (by rw [Int.natAbs_natCast]; omega)
  have l3 := lim_len_add (a := m) (b := 1) (L := 1000) (by omega) (by omega)
  have r2 := ref4_Rat (a := ((m + 1 : Nat) : Int)) (by rw [Int.natAbs_natCast]; omega) p (by omega)
  have cc := ref4_CmpN (a := m) (b := m') (by omega) (by omega)
  rw [show (m : Int) + ((1 : Nat) : Int) = ((m + 1 : Nat) : Int) by omega, intN_eq, intN_eq, intN_eq] at pl
  rw [show (1 : Int) = ((1 : Nat) : Int) from rfl, intN_eq] at w1
  rw [intN_eq] at r1 r2
  have ec : (cmpZ ((m : Nat) : Int) ((m' : Nat) : Int) == 0) = decide (m = m') := decide_eq_decide.2 (by unfold cmpZ; constructor <;> intro h <;> (first | (split at h <;> (first | omega | (split at h <;> omega))) | (subst h; rw [if_neg (by omega), if_pos rfl])))
  rw [← ec]
  clear ec
  generalize cmpZ ((m : Nat) : Int) ((m' : Nat) : Int) = z at *
  generalize mkRat ((m + 1 : Nat) : Int) (2 ^ p) = q2 at *
  generalize mkRat ((m : Nat) : Int) (2 ^ p) = q1 at *
  generalize m + 1 = m1 at *
  refine Go.Ev.Fn.intro (fn := Tryz.f87) (body := (Tryz.f87).body.get!) (by kernel_rfl) (by kernel_rfl) (by kernel_rfl) (fun _ => rfl) (Nat.le_of_ble_eq_true (by kernel_rfl)) ?_; unfold Tryz.f87; simp only [Option.get!_some]
  repeat (first | (simp only [go_sem, Nat.reduceEqDiff, Nat.reduceAdd, Nat.reduceSub, Nat.reduceMul, Nat.reduceLeDiff, Nat.reduceLT, reduceIte, reduceCtorEq, Nat.succ_ne_zero, elemsC, Int.reduceToNat, Nat.reducePow]) | (simp (disch := (first | omega | (simp only [AL, List.length_map]; omega))) only [AR, AL, ifT, ifF, take_all, List.length_cons, List.length_nil, Int.reduceToNat, Int.reducePow, Nat.reducePow]) | (refine wk_intro (by kernel_rfl) ?_) | (refine vp_draw (id := 1) (l := []) (by kernel_rfl) ?_) | (refine vp_draw (id := 2) (l := []) (by kernel_rfl) ?_) | (refine vf_of (by first | exact a | exact b | exact r1 | exact w1 | exact pl | exact r2 | exact cc) ?_))
theorem ref6_far1 {v : SV} (hv : RatA v (-1) 2) : Go.Ev.Fn CX 85 [v] (.bool false) := by
  have im := ref2_Int (-64) (by omega)
  have ip := ref2_Int 64 (by omega)
  have c1 := ref2_Cmp hv (RatA_rv (int_szR (n := -64) (by omega))) (by omega) (by omega) (by omega)
  have c2 := ref2_Cmp hv (RatA_rv (int_szR (n := 64) (by omega))) (by omega) (by omega) (by omega)
  have e1 : decide (cmpR (-1) ((-64 : Int) : Rat) < 0) = false := by rw [cmpR_lt]; decide +kernel
  have e2 : decide (cmpR (-1) ((64 : Int) : Rat) > 0) = false := by rw [cmpR_gt]; decide +kernel
  generalize cmpR (-1) ((-64 : Int) : Rat) = y1 at *
  generalize cmpR (-1) ((64 : Int) : Rat) = y2 at *
  obtain ⟨s, n, d, rfl, -⟩ := hv
  refine Go.Ev.Fn.intro (fn := Tryz.f85) (body := (Tryz.f85).body.get!) (by kernel_rfl) (by kernel_rfl) (by kernel_rfl) (fun _ => rfl) (Nat.le_of_ble_eq_true (by kernel_rfl)) ?_; unfold Tryz.f85; simp only [Option.get!_some]
  repeat (first | (simp only [go_sem, Nat.reduceEqDiff, Nat.reduceAdd, Nat.reduceSub, Nat.reduceMul, Nat.reduceLeDiff, Nat.reduceLT, reduceIte, reduceCtorEq, Nat.succ_ne_zero, elemsC, Int.reduceToNat, Nat.reducePow, e1, e2]) | (simp (disch := (first | omega | (simp only [AL, List.length_map]; omega))) only [AR, AL, ifT, ifF, take_all, List.length_cons, List.length_nil, Int.reduceToNat, Int.reducePow, Nat.reducePow, e1, e2]) | (refine wk_intro (by kernel_rfl) ?_) | (refine vp_draw (id := 1) (l := []) (by kernel_rfl) ?_) | (refine vf_of (by first | exact im | exact c1 | exact ip | exact c2) ?_))
theorem ref6_Exp1 {v : SV} (hv : RatA v (-1) 2) : ∃ m : Nat, (lim m).length ≤ 40 ∧ Go.Ev.Fn CX 35 [v, .int .i64 60] (.tup [ballR (mkRat (m : Int) (2 ^ 60)) (mkRat ((m + 1 : Nat) : Int) (2 ^ 60)), .bool true]) ∧ ∃ s, ∀ L, s ≤ L → Enc 60 m (m + 1) (evX (-1) L) := by
  obtain ⟨A, B, a1, a2, fi, ⟨s, hs⟩, A0, B0, hr, hA, hB⟩ := ref6_IvX (w := 80) hv (by omega) (by omega) (by decide) (by decide) (by omega)
  have u1 : unN (-(-1) * (1 / 256)) 210 = 2 ^ 202 := by decide +kernel
  have u2 : upN (-(-1) * (1 / 256)) 210 = 2 ^ 202 := by decide +kernel
  rw [show 80 + 130 = 210 from rfl] at hr hA hB
  rw [show 210 / 2 + 3 = 108 from rfl, u1, u2] at hr
  have ce := ex_cert rfl rfl hr
  rw [← hA, ← hB] at ce
  have lB : (lim B).length ≤ 40 := lim_len_p2 (w := 80 + 130 + 256) a2 (by omega)
  have lA := lim_len_mono a1
  clear hr u1 u2 a2 hA hB
  have fl := ref4_Floor (A := A) (B := B) (w := 80) (p := 60) (by omega) (by omega) (by omega) (by omega)
  rw [show 80 - 60 = 20 from rfl, decide_eq_true ce] at fl
  refine ⟨A / 2 ^ 20, Nat.le_trans (lim_len_mono (Nat.div_le_self _ _)) (by omega), ?_, s, fun L hL => ?_⟩
  rotate_left
  · have e := enc_backN (w := 60) (n := 20) (hs L hL)
    refine ⟨e.1, Rat.le_trans e.2 (Ex.castle ?_)⟩
    rw [ce]
    exact cdv_le (by decide) (by
      have := Nat.lt_div_mul_add (a := B) (b := 2 ^ 20) (by decide)
      rw [Nat.add_mul]; omega)
  · have ho := ref4_Hold (p := 60) (P := 60) (.inr rfl) (by omega)
    have fa := ref6_far1 hv
    have zr := ref2_Zero hv (by omega) (by omega)
    rw [decide_eq_false (by decide)] at zr
    clear hs ce lA lB a1
    generalize mkRat ((A / 2 ^ 20 : Nat) : Int) (2 ^ 60) = q1 at *
    generalize mkRat ((A / 2 ^ 20 + 1 : Nat) : Int) (2 ^ 60) = q2 at *
    obtain ⟨s0, n0, d0, rfl, -⟩ := hv
    refine Go.Ev.Fn.intro (fn := Tryz.f35) (body := (Tryz.f35).body.get!) (by kernel_rfl) (by kernel_rfl) (by kernel_rfl) (fun _ => rfl) (Nat.le_of_ble_eq_true (by kernel_rfl)) ?_; unfold Tryz.f35; simp only [Option.get!_some]
    repeat (first | (simp only [go_sem, Nat.reduceEqDiff, Nat.reduceAdd, Nat.reduceSub, Nat.reduceMul, Nat.reduceLeDiff, Nat.reduceLT, reduceIte, reduceCtorEq, Nat.succ_ne_zero, elemsC, Int.reduceToNat, Nat.reducePow]) | (simp (disch := (first | omega | (simp only [AL, List.length_map]; omega))) only [AR, AL, ifT, ifF, take_all, List.length_cons, List.length_nil, Int.reduceToNat, Int.reducePow, Nat.reducePow]) | (refine wk_intro (by kernel_rfl) ?_) | (refine vf_of (by first | exact ho | exact fa | exact zr) ?_))
    refine vp_loop_inv (fun s' => s'.tmp 1 = .sv (.int .i64 60) ∧ s'.tmp 2 = .ptr 2 0 0 ∧ s'.obj 2 0 = some [.bool s0, natV n0, natV d0] ∧ s'.tmp 4 = .ptr 4 0 0 ∧ s'.obj 4 0 = some [.bool false, .sl 0 [], .sl 0 [], .bool false, .sl 0 [], .sl 0 []] ∧ s'.tmp 6 = .sv (.int .i64 80))
      (fun _ => 0) ⟨rfl, rfl, rfl, rfl, rfl, rfl⟩ ?_
    rintro s' ⟨i1, i2, o2, i4, o4, i6⟩
    repeat (first | (simp only [go_sem, Nat.reduceEqDiff, Nat.reduceAdd, Nat.reduceSub, Nat.reduceMul, Nat.reduceLeDiff, Nat.reduceLT, reduceIte, reduceCtorEq, Nat.succ_ne_zero, elemsC, Int.reduceToNat, Nat.reducePow, i1, i2, o2, i4, o4, i6]) | (simp (disch := (first | omega | (simp only [AL, List.length_map]; omega))) only [AR, AL, ifT, ifF, take_all, List.length_cons, List.length_nil, Int.reduceToNat, Int.reducePow, Nat.reducePow, i1, i2, o2, i4, o4, i6]) | (refine wk_intro (by kernel_rfl) ?_) | (refine vf_of (by first | exact fi | exact fl) ?_))
theorem law11_big (s : Bool) (n d : List Nat) (hn : n.length ≤ 9223372036854775807) (hd : d.length ≤ 9223372036854775807) : Go.Ev.Fn CX 15 [.sl 1 [.bool s, natV n, natV d]] (.bool (decide (3 < n.length) || decide (3 < d.length))) := by
  refine Go.Ev.Fn.intro (fn := Tryz.f15) (body := (Tryz.f15).body.get!) (by kernel_rfl) (by kernel_rfl) (by kernel_rfl) (fun _ => rfl) (Nat.le_of_ble_eq_true (by kernel_rfl)) ?_; unfold Tryz.f15; simp only [Option.get!_some]
  repeat (first | (simp only [go_sem, Nat.reduceEqDiff, Nat.reduceAdd, Nat.reduceSub, Nat.reduceMul, Nat.reduceLeDiff, Nat.reduceLT, reduceIte, reduceCtorEq, Nat.succ_ne_zero, elemsC, Int.reduceToNat, Nat.reducePow]) | (simp (disch := (first | omega | (simp only [AL, List.length_map]; omega))) only [AR, AL, ifT, ifF, take_all, List.length_cons, List.length_nil, Int.reduceToNat, Int.reducePow, Nat.reducePow]) | (refine wk_intro (by kernel_rfl) ?_))
  refine vp_loop_inv (fun st => st.tmp 0 = .sv (.sl 1 [.bool s, natV n, natV d]) ∧ ((st.tmp 3 = .sv (.int .i64 0)) ∨ (st.tmp 3 = .sv (.int .i64 1) ∧ n.length ≤ 3 ∧ d.length ≤ 3)))
    (fun st => match st.tmp 3 with | .sv (.int _ i) => 1 - i.toNat | _ => 0) ⟨rfl, .inl rfl⟩ ?_
  rintro st ⟨i0, i3 | ⟨i3, h1, h2⟩⟩
  · by_cases h1 : 3 < n.length
    · rw [decide_eq_true h1, Bool.true_or]
      repeat (first | (simp only [go_sem, Nat.reduceEqDiff, Nat.reduceAdd, Nat.reduceSub, Nat.reduceMul, Nat.reduceLeDiff, Nat.reduceLT, reduceIte, reduceCtorEq, Nat.succ_ne_zero, elemsC, Int.reduceToNat, Nat.reducePow, i0, i3]) | (simp (disch := (first | omega | (simp only [AL, List.length_map]; omega))) only [AR, AL, ifT, ifF, take_all, List.length_cons, List.length_nil, Int.reduceToNat, Int.reducePow, Nat.reducePow, i0, i3]) | (refine wk_intro (by kernel_rfl) ?_))
    · rw [decide_eq_false h1, Bool.false_or]
      by_cases h2 : 3 < d.length
      · rw [decide_eq_true h2]
        repeat (first | (simp only [go_sem, Nat.reduceEqDiff, Nat.reduceAdd, Nat.reduceSub, Nat.reduceMul, Nat.reduceLeDiff, Nat.reduceLT, reduceIte, reduceCtorEq, Nat.succ_ne_zero, elemsC, Int.reduceToNat, Nat.reducePow, i0, i3]) | (simp (disch := (first | omega | (simp only [AL, List.length_map]; omega))) only [AR, AL, ifT, ifF, take_all, List.length_cons, List.length_nil, Int.reduceToNat, Int.reducePow, Nat.reducePow, i0, i3]) | (refine wk_intro (by kernel_rfl) ?_))
      · rw [decide_eq_false h2]
        repeat (first | (simp only [go_sem, Nat.reduceEqDiff, Nat.reduceAdd, Nat.reduceSub, Nat.reduceMul, Nat.reduceLeDiff, Nat.reduceLT, reduceIte, reduceCtorEq, Nat.succ_ne_zero, elemsC, Int.reduceToNat, Nat.reducePow, i0, i3]) | (simp (disch := (first | omega | (simp only [AL, List.length_map]; omega))) only [AR, AL, ifT, ifF, take_all, List.length_cons, List.length_nil, Int.reduceToNat, Int.reducePow, Nat.reducePow, i0, i3]) | (refine wk_intro (by kernel_rfl) ?_))
        first | exact ⟨.inr ⟨rfl, by omega, by omega⟩, by decide⟩ | exact ⟨by omega, by omega⟩
  · rw [decide_eq_false (by omega), decide_eq_false (by omega), Bool.or_false]
    repeat (first | (simp only [go_sem, Nat.reduceEqDiff, Nat.reduceAdd, Nat.reduceSub, Nat.reduceMul, Nat.reduceLeDiff, Nat.reduceLT, reduceIte, reduceCtorEq, Nat.succ_ne_zero, elemsC, Int.reduceToNat, Nat.reducePow, i0, i3]) | (simp (disch := (first | omega | (simp only [AL, List.length_map]; omega))) only [AR, AL, ifT, ifF, take_all, List.length_cons, List.length_nil, Int.reduceToNat, Int.reducePow, Nat.reducePow, i0, i3]) | (refine wk_intro (by kernel_rfl) ?_))
theorem tk_e : ∀ j : Nat, tk 2 4 j = Ex.tm 1 (j + 1)
  | 0 => by decide +kernel
  | j + 1 => by
    have ih := tk_e j
    show tk 2 4 j * 2 * ((1 : Nat) : Rat) / ((4 + 2 * j : Nat) : Rat) = Ex.tm 1 (j + 1) * 1 / ((j + 1 + 1 : Nat) : Rat)
    rw [ih]
    have e : ((4 + 2 * j : Nat) : Rat) = 2 * ((j + 1 + 1 : Nat) : Rat) := by
      rw [show 4 + 2 * j = 2 * (j + 1 + 1) by omega, Ex.castmul]; rfl
    have c : ((j + 1 + 1 : Nat) : Rat) ≠ 0 := Ex.nsucc_ne (j + 1)
    rw [e, show ((1 : Nat) : Rat) = 1 from rfl]
    generalize ((j + 1 + 1 : Nat) : Rat) = z at *
    have h1 : 2 * z ≠ 0 := fun h => by rcases Rat.mul_eq_zero.1 h with h | h; exact absurd h (by decide); exact c h
    have a := Rat.div_mul_cancel (a := Ex.tm 1 (j + 1) * 2 * 1) h1
    have b := Rat.div_mul_cancel (a := Ex.tm 1 (j + 1) * 1) c
    generalize Ex.tm 1 (j + 1) * 2 * 1 / (2 * z) = p at *
    generalize Ex.tm 1 (j + 1) * 1 / z = q at *
    have : (p - q) * z = 0 := by grind
    rcases Rat.mul_eq_zero.1 this with h | h
    · grind
    · exact absurd h c
theorem sk_e : ∀ j : Nat, sk 2 4 j + 1 = Ex.E 1 (j + 1)
  | 0 => by decide +kernel
  | j + 1 => by
    have ih := sk_e j
    show sk 2 4 j + tk 2 4 j + 1 = Ex.E 1 (j + 1) + Ex.tm 1 (j + 1)
    rw [tk_e, ← ih]; grind
theorem igV_e {s : Rat} {L : Nat} (hL : 1 ≤ L) : 1 - evX (-1) L ≤ igV 2 s 1 L ∧ igV 2 s 1 L ≤ 1 - evX (-1) L + Ex.tm 1 L := by
  have e1 : igC 2 s = 1 := rfl
  have e2 : tk (1 * 2) (2 + 2 % 2) (2 / 2) = 1 := by decide +kernel
  have ev : evX (-1) L = 1 / Ex.E 1 L := by
    unfold evX
    rw [if_pos (by decide), show (- -1 : Rat) = 1 by decide +kernel]
  have one := E_one (x := 1) (by decide) hL
  have iv : Ex.E 1 L * (1 / Ex.E 1 L) = 1 := Ex.mul_div _ 1 (by grind)
  have i0 : 0 ≤ 1 / Ex.E 1 L := Ex.div_nn (by decide) (by grind)
  have i1 : 1 / Ex.E 1 L ≤ 1 := by
    have := Rat.mul_le_mul_of_nonneg_right one i0
    rw [iv, Rat.one_mul] at this; exact this
  have hk := sk_e L
  have t0 := Ex.tm_nn (x := 1) (by decide) L
  have e3 : igV 2 s 1 L = (Ex.E 1 L + Ex.tm 1 L - 1) * (1 / Ex.E 1 L) := by
    unfold igV
    rw [e1, e2, ev, show (1 : Rat) * 2 = 2 by decide +kernel, show 2 + 2 = 4 from rfl]
    have : Ex.E 1 (L + 1) = Ex.E 1 L + Ex.tm 1 L := rfl
    rw [this] at hk
    rw [show sk 2 4 L = Ex.E 1 L + Ex.tm 1 L - 1 by grind]
    grind
  rw [e3, ev]
  generalize 1 / Ex.E 1 L = i at *
  have k : (Ex.E 1 L + Ex.tm 1 L - 1) * i = 1 - i + Ex.tm 1 L * i := by
    have : (Ex.E 1 L + Ex.tm 1 L - 1) * i = Ex.E 1 L * i - i + Ex.tm 1 L * i := by grind
    rw [this, iv]
  rw [k]
  have m1 := Rat.mul_nonneg t0 i0
  have m2 := Rat.mul_le_mul_of_nonneg_left i1 t0
  constructor <;> grind
theorem known11 : Go.Ev.Fn CX 18 [] (.bool true) := by
  have i1 := ref2_Int 1 (by omega)
  have im := ref2_Int (-1) (by omega)
  have z1 := int_szR (n := (1 : Int)) (by omega)
  have zm := int_szR (n := (-1 : Int)) (by omega)
  rw [show ((1 : Int) : Rat) = 1 from rfl] at i1 z1
  rw [show ((-1 : Int) : Rat) = -1 from rfl] at im zm
  obtain ⟨l, h, lo, hi, fp, lh, zl, zh, thin, l0, lhh, l1, l2, en⟩ := incg_P (n := 2) (pI := 20) (P := 20) (RatA_mono (RatA_rv z1) (by omega)) (by decide) (by decide) (by omega) (by omega) (.inr rfl) (by omega)
  obtain ⟨m, lm, fe, s, hs⟩ := ref6_Exp1 (RatA_rv zm)
  obtain ⟨L0, hL⟩ := en lo Rat.le_refl lhh
  have P := p2_pos 60
  have l6 : (lim (2 ^ 60)).length ≤ 2 := lim_len_lt (by decide)
  have lm1 := lim_len_add (a := m) (b := 1) (L := 40) lm (by have := lim_len1; omega)
  have zq1 : szR (mkRat (m : Int) (2 ^ 60)) 41 := szR_nat (by omega) (by omega) (by omega)
  have zq2 : szR (mkRat ((m + 1 : Nat) : Int) (2 ^ 60)) 41 := szR_nat (by omega) (by omega) (by omega)
  have q : ∀ L, s ≤ L → mkRat (m : Int) (2 ^ 60) ≤ evX (-1) L ∧ evX (-1) L ≤ mkRat ((m + 1 : Nat) : Int) (2 ^ 60) := fun L h => mk_in (hs L h)
  have o := ref4_Of (RatA_rv z1) (by omega)
  generalize mkRat (m : Int) (2 ^ 60) = q1 at *
  generalize mkRat ((m + 1 : Nat) : Int) (2 ^ 60) = q2 at *
  have sb := ref4_SubI z1 z1 zq1 zq2 (by omega) (by omega) (by omega)
  have c1 : 1 - q2 ≤ h := by
    have a := (hL (L0 + s + 1) (by omega)).2
    have b := (igV_e (s := lo) (L := L0 + s + 1) (by omega)).1
    have c := (q (L0 + s + 1) (by omega)).2
    grind
  have c2 : l ≤ 1 - q1 := by
    refine Rat.not_lt.1 fun g => ?_
    obtain ⟨N, hN⟩ := Ex.tm_small (y := 1) (by decide) (show 0 < l - (1 - q1) by grind)
    have t := (hN (L0 + s + 1 + N) (by omega)).2
    have t0 := Ex.tm_pos (x := 1) (by decide) (L0 + s + 1 + N)
    have a := (hL (L0 + s + 1 + N) (by omega)).1
    have b := (igV_e (s := lo) (L := L0 + s + 1 + N) (by omega)).2
    have c := (q (L0 + s + 1 + N) (by omega)).1
    grind
  have gd := ref4_Good (p := 20) (P := 20) (.inr rfl) (by omega) zl zh (szR_sub z1 zq2 (by omega)) (szR_sub z1 zq1 (by omega)) (by omega) (by omega) (by omega) lh c1 c2 thin
  clear q hs en hL c1 c2
  generalize 1 - q1 = y1 at *
  generalize 1 - q2 = y2 at *
  have fp' : Go.Ev.Fn CX 16 [.int .i64 2, rv 1, .int .i64 20] (.tup [ballR l h, .bool true]) := fp
  generalize (1 : Rat) = one at *
  refine Go.Ev.Fn.intro (fn := Tryz.f18) (body := (Tryz.f18).body.get!) (by kernel_rfl) (by kernel_rfl) (by kernel_rfl) (fun _ => rfl) (Nat.le_of_ble_eq_true (by kernel_rfl)) ?_; unfold Tryz.f18; simp only [Option.get!_some]
  repeat (first | (simp only [go_sem, Nat.reduceEqDiff, Nat.reduceAdd, Nat.reduceSub, Nat.reduceMul, Nat.reduceLeDiff, Nat.reduceLT, reduceIte, reduceCtorEq, Nat.succ_ne_zero, elemsC, Int.reduceToNat, Nat.reducePow]) | (simp (disch := (first | omega | (simp only [AL, List.length_map]; omega))) only [AR, AL, ifT, ifF, take_all, List.length_cons, List.length_nil, Int.reduceToNat, Int.reducePow, Nat.reducePow]) | (refine wk_intro (by kernel_rfl) ?_) | (refine vp_draw (id := 3) (l := []) (by kernel_rfl) ?_) | (refine vf_of (by first | exact i1 | exact fp' | exact im | exact fe | exact o | exact sb | exact gd) ?_))
end Go.Proofs.YtemnjalaincijaaGreat
namespace Go.Proofs.YtemnjalaincijaaGreat
open Go.Ev
section
variable {v : SV} {x : Rat} {n : Nat} {p : Int} {P : Nat} {s : Bool} {N D : List Nat}
theorem incg_balls (hv : RatA v x 7) (h0 : 0 ≤ x) (h64 : x ≤ 64) (hn : 1 ≤ n) (hn2 : n ≤ 30) (hpI : (p ≤ 0 ∧ P = 0) ∨ p = (P : Int)) (hP : P ≤ 80) :
    ∃ a b c d : Rat, Go.Ev.Fn CX 16 [.int .i64 (n : Int), v, .int .i64 p] (.tup [ballR a b, .bool true]) ∧ Go.Ev.Fn CX 17 [.int .i64 (n : Int), v, .int .i64 ((P : Int) + 20)] (.tup [ballR c d, .bool true]) ∧
      szR a 400 ∧ szR b 400 ∧ szR c 1200 ∧ szR d 1200 ∧ a ≤ b ∧ c ≤ b ∧ a ≤ d ∧ (b - a) * p2 P ≤ 1 := by
  by_cases e : x = 0
  · subst e
    have z : ∀ L, 1 ≤ L → szR 0 L := fun L h => szR_zero h
    refine ⟨0, 0, 0, 0, incg_Pzero hv (by omega) (by omega), ref11_Pzero hv (by omega) (by omega), z _ (by omega), z _ (by omega), z _ (by omega), z _ (by omega), Rat.le_refl, Rat.le_refl, Rat.le_refl, ?_⟩
    rw [Rat.sub_self, Rat.zero_mul]; decide
  · have hx : 0 < x := by grind
    obtain ⟨a, b, lo, hi, f1, ab, z1, z2, thin, l0, lh, l1, l2, e1⟩ := incg_P hv hx h64 hn hn2 hpI (show P ≤ 96 by omega)
    obtain ⟨c, d, lo', hi', f2, z3, z4, k0, k1, k2, k3, e2⟩ := ref11_P (p := P + 20) hv hx h64 hn hn2 (by omega)
    rw [show ((P + 20 : Nat) : Int) = (P : Int) + 20 from rfl] at f2
    have h1 : lo ≤ hi' := sq_mono l0 k1 (Rat.le_trans l1 k3)
    have h2 : lo' ≤ hi := sq_mono k0 (Rat.le_trans l0 lh) (Rat.le_trans k2 l2)
    have h3 : lo' ≤ hi' := sq_mono k0 k1 (Rat.le_trans k2 k3)
    obtain ⟨t, t1, t2, t3, t4⟩ : ∃ t : Rat, lo ≤ t ∧ t ≤ hi ∧ lo' ≤ t ∧ t ≤ hi' := by
      rcases Rat.le_total (a := lo) (b := lo') with g | g
      · exact ⟨lo', g, h2, Rat.le_refl, h3⟩
      · exact ⟨lo, Rat.le_refl, lh, g, h1⟩
    obtain ⟨L1, g1⟩ := e1 t t1 t2
    obtain ⟨L2, g2⟩ := e2 t t3 t4
    have m1 := g1 (L1 + L2) (by omega)
    have m2 := g2 (L1 + L2) (by omega)
    exact ⟨a, b, c, d, f1, f2, z1, z2, z3, z4, ab, Rat.le_trans m2.1 m1.2, Rat.le_trans m1.1 m2.2, thin⟩
theorem itells_out {n : Int} (hN : N.length ≤ 9223372036854775807) (hD : D.length ≤ 9223372036854775807) (hn : -9223372036854775808 ≤ n ∧ n < 9223372036854775808) (hp : -9223372036854775808 ≤ p ∧ p < 9223372036854775808)
    (h : 3 < N.length ∨ 3 < D.length ∨ 80 < p ∨ (30 < n ∧ n < 250)) : Go.Ev.Fn CX 4 [.int .i64 n, ratV s N D, .int .i64 p] (.bool true) := by
  have bg := law11_big s N D hN hD
  by_cases c1 : 80 < p
  · generalize (decide (3 < N.length) || decide (3 < D.length)) = c at *
    cases c
    · refine Go.Ev.Fn.intro (fn := Tryz.f4) (body := (Tryz.f4).body.get!) (by kernel_rfl) (by kernel_rfl) (by kernel_rfl) (fun _ => rfl) (Nat.le_of_ble_eq_true (by kernel_rfl)) ?_; unfold Tryz.f4; simp only [Option.get!_some]
      repeat (first | (simp only [go_sem, Nat.reduceEqDiff, Nat.reduceAdd, Nat.reduceSub, Nat.reduceMul, Nat.reduceLeDiff, Nat.reduceLT, reduceIte, reduceCtorEq, Nat.succ_ne_zero, elemsC, Int.reduceToNat, Nat.reducePow]) | (simp (disch := (first | omega | (simp only [AL, List.length_map]; omega))) only [AR, AL, ifT, ifF, take_all, List.length_cons, List.length_nil, Int.reduceToNat, Int.reducePow, Nat.reducePow]) | (refine wk_intro (by kernel_rfl) ?_) | (refine vf_of (by first | exact bg) ?_))
    · refine Go.Ev.Fn.intro (fn := Tryz.f4) (body := (Tryz.f4).body.get!) (by kernel_rfl) (by kernel_rfl) (by kernel_rfl) (fun _ => rfl) (Nat.le_of_ble_eq_true (by kernel_rfl)) ?_; unfold Tryz.f4; simp only [Option.get!_some]
      repeat (first | (simp only [go_sem, Nat.reduceEqDiff, Nat.reduceAdd, Nat.reduceSub, Nat.reduceMul, Nat.reduceLeDiff, Nat.reduceLT, reduceIte, reduceCtorEq, Nat.succ_ne_zero, elemsC, Int.reduceToNat, Nat.reducePow]) | (simp (disch := (first | omega | (simp only [AL, List.length_map]; omega))) only [AR, AL, ifT, ifF, take_all, List.length_cons, List.length_nil, Int.reduceToNat, Int.reducePow, Nat.reducePow]) | (refine wk_intro (by kernel_rfl) ?_) | (refine vf_of (by first | exact bg) ?_))
  by_cases c2 : 30 < n ∧ n < 250
  · generalize (decide (3 < N.length) || decide (3 < D.length)) = c at *
    cases c
    · refine Go.Ev.Fn.intro (fn := Tryz.f4) (body := (Tryz.f4).body.get!) (by kernel_rfl) (by kernel_rfl) (by kernel_rfl) (fun _ => rfl) (Nat.le_of_ble_eq_true (by kernel_rfl)) ?_; unfold Tryz.f4; simp only [Option.get!_some]
      repeat (first | (simp only [go_sem, Nat.reduceEqDiff, Nat.reduceAdd, Nat.reduceSub, Nat.reduceMul, Nat.reduceLeDiff, Nat.reduceLT, reduceIte, reduceCtorEq, Nat.succ_ne_zero, elemsC, Int.reduceToNat, Nat.reducePow]) | (simp (disch := (first | omega | (simp only [AL, List.length_map]; omega))) only [AR, AL, ifT, ifF, take_all, List.length_cons, List.length_nil, Int.reduceToNat, Int.reducePow, Nat.reducePow]) | (refine wk_intro (by kernel_rfl) ?_) | (refine vf_of (by first | exact bg) ?_))
    · refine Go.Ev.Fn.intro (fn := Tryz.f4) (body := (Tryz.f4).body.get!) (by kernel_rfl) (by kernel_rfl) (by kernel_rfl) (fun _ => rfl) (Nat.le_of_ble_eq_true (by kernel_rfl)) ?_; unfold Tryz.f4; simp only [Option.get!_some]
      repeat (first | (simp only [go_sem, Nat.reduceEqDiff, Nat.reduceAdd, Nat.reduceSub, Nat.reduceMul, Nat.reduceLeDiff, Nat.reduceLT, reduceIte, reduceCtorEq, Nat.succ_ne_zero, elemsC, Int.reduceToNat, Nat.reducePow]) | (simp (disch := (first | omega | (simp only [AL, List.length_map]; omega))) only [AR, AL, ifT, ifF, take_all, List.length_cons, List.length_nil, Int.reduceToNat, Int.reducePow, Nat.reducePow]) | (refine wk_intro (by kernel_rfl) ?_) | (refine vf_of (by first | exact bg) ?_))
  · rw [show (decide (3 < N.length) || decide (3 < D.length)) = true by rcases h with h | h | h | h; (rw [decide_eq_true h, Bool.true_or]); (rw [decide_eq_true h, Bool.or_true]); omega; omega] at bg
    refine Go.Ev.Fn.intro (fn := Tryz.f4) (body := (Tryz.f4).body.get!) (by kernel_rfl) (by kernel_rfl) (by kernel_rfl) (fun _ => rfl) (Nat.le_of_ble_eq_true (by kernel_rfl)) ?_; unfold Tryz.f4; simp only [Option.get!_some]
    repeat (first | (simp only [go_sem, Nat.reduceEqDiff, Nat.reduceAdd, Nat.reduceSub, Nat.reduceMul, Nat.reduceLeDiff, Nat.reduceLT, reduceIte, reduceCtorEq, Nat.succ_ne_zero, elemsC, Int.reduceToNat, Nat.reducePow]) | (simp (disch := (first | omega | (simp only [AL, List.length_map]; omega))) only [AR, AL, ifT, ifF, take_all, List.length_cons, List.length_nil, Int.reduceToNat, Int.reducePow, Nat.reducePow]) | (refine wk_intro (by kernel_rfl) ?_) | (refine vf_of (by first | exact bg) ?_))
theorem itells_near {n : Int} (h1 : N.length ≤ 3) (h2 : D.length ≤ 3) (hp : -9223372036854775808 ≤ p ∧ p ≤ 80) (h : 250 ≤ n ∧ n ≤ 256) : Go.Ev.Fn CX 4 [.int .i64 n, ratV s N D, .int .i64 p] (.bool true) := by
  have bg := law11_big s N D (by omega) (by omega)
  rw [decide_eq_false (by omega), decide_eq_false (by omega), Bool.or_false] at bg
  have kn := known11
  refine Go.Ev.Fn.intro (fn := Tryz.f4) (body := (Tryz.f4).body.get!) (by kernel_rfl) (by kernel_rfl) (by kernel_rfl) (fun _ => rfl) (Nat.le_of_ble_eq_true (by kernel_rfl)) ?_; unfold Tryz.f4; simp only [Option.get!_some]
  repeat (first | (simp only [go_sem, Nat.reduceEqDiff, Nat.reduceAdd, Nat.reduceSub, Nat.reduceMul, Nat.reduceLeDiff, Nat.reduceLT, reduceIte, reduceCtorEq, Nat.succ_ne_zero, elemsC, Int.reduceToNat, Nat.reducePow]) | (simp (disch := (first | omega | (simp only [AL, List.length_map]; omega))) only [AR, AL, ifT, ifF, take_all, List.length_cons, List.length_nil, Int.reduceToNat, Int.reducePow, Nat.reducePow]) | (refine wk_intro (by kernel_rfl) ?_) | (refine vf_of (by first | exact bg | exact kn) ?_))
set_option maxHeartbeats 1000000 in
theorem itells_bad {n : Int} {z : Rat} (hz : ((0 : Int) : Rat) = z) (h1 : N.length ≤ 3) (h2 : D.length ≤ 3) (hn : -9223372036854775808 ≤ n ∧ n < 9223372036854775808) (hp : -9223372036854775808 ≤ p ∧ p ≤ 80) (hn2 : n ≤ 30 ∨ 256 < n)
    (f1 : Go.Ev.Fn CX 16 [.int .i64 n, ratV s N D, .int .i64 p] (.tup [ballR z z, .bool false])) (f2 : ∀ q : Int, Go.Ev.Fn CX 17 [.int .i64 n, ratV s N D, .int .i64 q] (.tup [ballR z z, .bool false]))
    (f3 : Go.Ev.Fn CX 20 [.int .i64 n, ratV s N D, .int .i64 p] (.tup [ballR z z, .bool false])) (f4 : ∀ q : Int, Go.Ev.Fn CX 21 [.int .i64 n, ratV s N D, .int .i64 q] (.tup [ballR z z, .bool false])) :
    Go.Ev.Fn CX 4 [.int .i64 n, ratV s N D, .int .i64 p] (.bool true) := by
  have bg := law11_big s N D (by omega) (by omega)
  rw [decide_eq_false (by omega), decide_eq_false (by omega), Bool.or_false] at bg
  have kn := known11
  have i0 := ref2_Int 0 (by omega)
  have zr : szR ((0 : Int) : Rat) 2 := int_szR (by omega)
  have o := ref4_Of (RatA_rv zr) (by omega)
  rw [hz] at i0 o zr
  have sm := ref4_Same (a := z) (b := z) zr zr (by omega) (by omega)
  obtain ⟨P, hP⟩ : ∃ P : Int, (if (0 : Int) > p then (0 : Int) else p) = P := ⟨_, rfl⟩
  have hP2 : 0 ≤ P ∧ P ≤ 80 := by rw [← hP]; split <;> omega
  have f2' := f2 (P + 20)
  have f4' := f4 (P + 20)
  clear hz f2 f4
  have fb : (!(false == false)) = false := rfl
  by_cases a1 : 250 ≤ n
  · refine Go.Ev.Fn.intro (fn := Tryz.f4) (body := (Tryz.f4).body.get!) (by kernel_rfl) (by kernel_rfl) (by kernel_rfl) (fun _ => rfl) (Nat.le_of_ble_eq_true (by kernel_rfl)) ?_; unfold Tryz.f4; simp only [Option.get!_some]
    repeat (first | (simp only [go_sem, Nat.reduceEqDiff, Nat.reduceAdd, Nat.reduceSub, Nat.reduceMul, Nat.reduceLeDiff, Nat.reduceLT, reduceIte, reduceCtorEq, Nat.succ_ne_zero, elemsC, Int.reduceToNat, Nat.reducePow, hP, fb, Bool.not_false]) | (simp (disch := (first | omega | (simp only [AL, List.length_map]; omega))) only [AR, AL, ifT, ifF, take_all, List.length_cons, List.length_nil, Int.reduceToNat, Int.reducePow, Nat.reducePow, hP, fb, Bool.not_false]) | (refine wk_intro (by kernel_rfl) ?_) | (refine vf_of (by first | exact bg | exact f1 | exact f2' | exact f3 | exact f4' | exact i0 | exact o | exact sm | exact kn) ?_))
  · refine Go.Ev.Fn.intro (fn := Tryz.f4) (body := (Tryz.f4).body.get!) (by kernel_rfl) (by kernel_rfl) (by kernel_rfl) (fun _ => rfl) (Nat.le_of_ble_eq_true (by kernel_rfl)) ?_; unfold Tryz.f4; simp only [Option.get!_some]
    repeat (first | (simp only [go_sem, Nat.reduceEqDiff, Nat.reduceAdd, Nat.reduceSub, Nat.reduceMul, Nat.reduceLeDiff, Nat.reduceLT, reduceIte, reduceCtorEq, Nat.succ_ne_zero, elemsC, Int.reduceToNat, Nat.reducePow, hP, fb, Bool.not_false]) | (simp (disch := (first | omega | (simp only [AL, List.length_map]; omega))) only [AR, AL, ifT, ifF, take_all, List.length_cons, List.length_nil, Int.reduceToNat, Int.reducePow, Nat.reducePow, hP, fb, Bool.not_false]) | (refine wk_intro (by kernel_rfl) ?_) | (refine vf_of (by first | exact bg | exact f1 | exact f2' | exact f3 | exact f4' | exact i0 | exact o | exact sm | exact kn) ?_))
set_option maxHeartbeats 1000000 in
theorem itells_good (hv : RatA (ratV s N D) x 7) (h1 : N.length ≤ 3) (h2 : D.length ≤ 3) (h0 : 0 ≤ x) (h64 : x ≤ 64) (hn : 1 ≤ n) (hn2 : n ≤ 30) (hpI : (p ≤ 0 ∧ P = 0) ∨ p = (P : Int)) (hP : P ≤ 80) (hp : -9223372036854775808 ≤ p) : Go.Ev.Fn CX 4 [.int .i64 (n : Int), ratV s N D, .int .i64 p] (.bool true) := by
  have bg := law11_big s N D (by omega) (by omega)
  rw [decide_eq_false (by omega), decide_eq_false (by omega), Bool.or_false] at bg
  have kn := known11
  obtain ⟨a, b, c, d, f1, f2, z1, z2, z3, z4, g1, g2, g3, g4⟩ := incg_balls hv h0 h64 hn hn2 hpI hP
  have f3 := incg_Q hv z1 z2 f1
  have f4 := ref11_Q hv z3 z4 f2
  have u : szR 1 1 := unit_len
  have gd1 := ref4_Good hpI (by omega) z1 z2 z3 z4 (by omega) (by omega) (by omega) g1 g2 g3 g4
  have gd2 := ref4_Good hpI (by omega) (szR_sub u z2 (by omega)) (szR_sub u z1 (by omega)) (szR_sub u z4 (by omega)) (szR_sub u z3 (by omega)) (by omega) (by omega) (by omega) (show 1 - b ≤ 1 - a by grind) (show 1 - d ≤ 1 - a by grind) (show 1 - b ≤ 1 - c by grind) (by rw [show 1 - a - (1 - b) = b - a by grind]; exact g4)
  have hP' : (if (0 : Int) > p then (0 : Int) else p) = (P : Int) := by split <;> omega
  have fb : (!(true == true)) = false := rfl
  clear g1 g2 g3 g4 z1 z2 z3 z4 h0 h64
  generalize 1 - a = a' at *
  generalize 1 - b = b' at *
  generalize 1 - c = c' at *
  generalize 1 - d = d' at *
  refine Go.Ev.Fn.intro (fn := Tryz.f4) (body := (Tryz.f4).body.get!) (by kernel_rfl) (by kernel_rfl) (by kernel_rfl) (fun _ => rfl) (Nat.le_of_ble_eq_true (by kernel_rfl)) ?_; unfold Tryz.f4; simp only [Option.get!_some]
  repeat (first | (simp only [go_sem, Nat.reduceEqDiff, Nat.reduceAdd, Nat.reduceSub, Nat.reduceMul, Nat.reduceLeDiff, Nat.reduceLT, reduceIte, reduceCtorEq, Nat.succ_ne_zero, elemsC, Int.reduceToNat, Nat.reducePow, hP', fb, Bool.not_true]) | (simp (disch := (first | omega | (simp only [AL, List.length_map]; omega))) only [AR, AL, ifT, ifF, take_all, List.length_cons, List.length_nil, Int.reduceToNat, Int.reducePow, Nat.reducePow, hP', fb, Bool.not_true]) | (refine wk_intro (by kernel_rfl) ?_) | (refine vf_of (by first | exact bg | exact f1 | exact f2 | exact f3 | exact f4 | exact gd1 | exact gd2 | exact kn) ?_))
end
theorem rat_split (x : Rat) : (x < 0 ∨ 64 < x) ∨ (0 ≤ x ∧ x ≤ 64) := by
  by_cases h : x < 0
  · exact .inl (.inl h)
  · by_cases h2 : 64 < x
    · exact .inl (.inr h2)
    · exact .inr ⟨Rat.not_lt.1 h, Rat.not_lt.1 h2⟩
set_option maxRecDepth 100000 in
theorem itells_law (n : Int) (w0 : (Lit.int .i64 n).wf = true) (ss1 : List SV) (sh1 : ShpT Tryz.prog 6 24 ss1) (p : Int) (w2 : (Lit.int .i64 p).wf = true) :
    Go.Ev.Fn CX 4 [.int .i64 n, .agg ss1, .int .i64 p] (.bool true) := by
  obtain ⟨s, N, D, rfl, hN, hD, lN, lD⟩ := shp_rat (n := 3) sh1
  have r0 := wf_int64E w0
  have r2 := wf_int64E w2
  have mx : maxLen ≤ 9223372036854775807 := by decide
  by_cases c : 3 < N.length ∨ 3 < D.length ∨ 80 < p ∨ (30 < n ∧ n < 250)
  · exact itells_out (Nat.le_trans lN mx) (Nat.le_trans lD mx) r0 r2 c
  have c1 : N.length ≤ 3 := Nat.not_lt.1 fun h => c (.inl h)
  have c2 : D.length ≤ 3 := Nat.not_lt.1 fun h => c (.inr (.inl h))
  by_cases c3 : 250 ≤ n ∧ n ≤ 256
  · exact itells_near c1 c2 (by omega) c3
  obtain ⟨x, hv⟩ : ∃ x : Rat, RatA (ratV s N D) x 7 := ⟨_, s, N, D, rfl, hN, hD, by omega, by omega, rfl⟩
  have bad : (n < 1 ∨ 256 < n ∨ x < 0 ∨ 64 < x) → Go.Ev.Fn CX 4 [.int .i64 n, ratV s N D, .int .i64 p] (.bool true) := fun h =>
    itells_bad (z := 0) rfl c1 c2 r0 (by omega) (by omega) (incg_Pout hv r0 h) (fun q => ref11_Pout hv r0 h) (incg_Qbad hv (incg_Pout hv r0 h)) (fun q => ref11_Qbad hv (ref11_Pout hv r0 h))
  by_cases c4 : n < 1
  · exact bad (.inl c4)
  by_cases c5 : 256 < n
  · exact bad (.inr (.inl c5))
  rcases rat_split x with h | ⟨h0, h64⟩
  · exact bad (.inr (.inr h))
  · obtain ⟨m, rfl⟩ : ∃ m : Nat, n = (m : Int) := ⟨n.toNat, by omega⟩
    exact itells_good (P := p.toNat) hv c1 c2 h0 h64 (by omega) (by omega) (by omega) (by omega) r2.1
section
variable {v : SV} {x : Rat} {n : Nat} {p : Int} {P : Nat} {s : Bool} {N D : List Nat}
theorem isides_out {n : Int} (hN : N.length ≤ 9223372036854775807) (hD : D.length ≤ 9223372036854775807) (hn : -9223372036854775808 ≤ n ∧ n < 9223372036854775808) (hp : -9223372036854775808 ≤ p ∧ p < 9223372036854775808)
    (h : 3 < N.length ∨ 3 < D.length ∨ p < 0 ∨ 60 < p ∨ 30 < n) : Go.Ev.Fn CX 5 [.int .i64 n, ratV s N D, .int .i64 p] (.bool true) := by
  have bg := law11_big s N D hN hD
  by_cases c0 : 3 < N.length ∨ 3 < D.length
  · rw [show (decide (3 < N.length) || decide (3 < D.length)) = true by rw [← Bool.decide_or]; exact decide_eq_true c0] at bg
    refine Go.Ev.Fn.intro (fn := Tryz.f5) (body := (Tryz.f5).body.get!) (by kernel_rfl) (by kernel_rfl) (by kernel_rfl) (fun _ => rfl) (Nat.le_of_ble_eq_true (by kernel_rfl)) ?_; unfold Tryz.f5; simp only [Option.get!_some]
    repeat (first | (simp only [go_sem, Nat.reduceEqDiff, Nat.reduceAdd, Nat.reduceSub, Nat.reduceMul, Nat.reduceLeDiff, Nat.reduceLT, reduceIte, reduceCtorEq, Nat.succ_ne_zero, elemsC, Int.reduceToNat, Nat.reducePow]) | (simp (disch := (first | omega | (simp only [AL, List.length_map]; omega))) only [AR, AL, ifT, ifF, take_all, List.length_cons, List.length_nil, Int.reduceToNat, Int.reducePow, Nat.reducePow]) | (refine wk_intro (by kernel_rfl) ?_) | (refine vf_of (by first | exact bg) ?_))
  rw [show (decide (3 < N.length) || decide (3 < D.length)) = false by rw [← Bool.decide_or]; exact decide_eq_false c0] at bg
  by_cases c1 : p < 0
  · refine Go.Ev.Fn.intro (fn := Tryz.f5) (body := (Tryz.f5).body.get!) (by kernel_rfl) (by kernel_rfl) (by kernel_rfl) (fun _ => rfl) (Nat.le_of_ble_eq_true (by kernel_rfl)) ?_; unfold Tryz.f5; simp only [Option.get!_some]
    repeat (first | (simp only [go_sem, Nat.reduceEqDiff, Nat.reduceAdd, Nat.reduceSub, Nat.reduceMul, Nat.reduceLeDiff, Nat.reduceLT, reduceIte, reduceCtorEq, Nat.succ_ne_zero, elemsC, Int.reduceToNat, Nat.reducePow]) | (simp (disch := (first | omega | (simp only [AL, List.length_map]; omega))) only [AR, AL, ifT, ifF, take_all, List.length_cons, List.length_nil, Int.reduceToNat, Int.reducePow, Nat.reducePow]) | (refine wk_intro (by kernel_rfl) ?_) | (refine vf_of (by first | exact bg) ?_))
  by_cases c2 : 60 < p
  · refine Go.Ev.Fn.intro (fn := Tryz.f5) (body := (Tryz.f5).body.get!) (by kernel_rfl) (by kernel_rfl) (by kernel_rfl) (fun _ => rfl) (Nat.le_of_ble_eq_true (by kernel_rfl)) ?_; unfold Tryz.f5; simp only [Option.get!_some]
    repeat (first | (simp only [go_sem, Nat.reduceEqDiff, Nat.reduceAdd, Nat.reduceSub, Nat.reduceMul, Nat.reduceLeDiff, Nat.reduceLT, reduceIte, reduceCtorEq, Nat.succ_ne_zero, elemsC, Int.reduceToNat, Nat.reducePow]) | (simp (disch := (first | omega | (simp only [AL, List.length_map]; omega))) only [AR, AL, ifT, ifF, take_all, List.length_cons, List.length_nil, Int.reduceToNat, Int.reducePow, Nat.reducePow]) | (refine wk_intro (by kernel_rfl) ?_) | (refine vf_of (by first | exact bg) ?_))
  · have c3 : 30 < n := by omega
    refine Go.Ev.Fn.intro (fn := Tryz.f5) (body := (Tryz.f5).body.get!) (by kernel_rfl) (by kernel_rfl) (by kernel_rfl) (fun _ => rfl) (Nat.le_of_ble_eq_true (by kernel_rfl)) ?_; unfold Tryz.f5; simp only [Option.get!_some]
    repeat (first | (simp only [go_sem, Nat.reduceEqDiff, Nat.reduceAdd, Nat.reduceSub, Nat.reduceMul, Nat.reduceLeDiff, Nat.reduceLT, reduceIte, reduceCtorEq, Nat.succ_ne_zero, elemsC, Int.reduceToNat, Nat.reducePow]) | (simp (disch := (first | omega | (simp only [AL, List.length_map]; omega))) only [AR, AL, ifT, ifF, take_all, List.length_cons, List.length_nil, Int.reduceToNat, Int.reducePow, Nat.reducePow]) | (refine wk_intro (by kernel_rfl) ?_) | (refine vf_of (by first | exact bg) ?_))
theorem isides_bad {n : Int} (h1 : N.length ≤ 3) (h2 : D.length ≤ 3) (hn : -9223372036854775808 ≤ n ∧ n ≤ 30) (hp : 0 ≤ p ∧ p ≤ 60)
    (f1 : Go.Ev.Fn CX 16 [.int .i64 n, ratV s N D, .int .i64 p] (.tup [ballR 0 0, .bool false])) (f2 : Go.Ev.Fn CX 17 [.int .i64 n, ratV s N D, .int .i64 0] (.tup [ballR 0 0, .bool false]))
    (f3 : Go.Ev.Fn CX 20 [.int .i64 n, ratV s N D, .int .i64 p] (.tup [ballR 0 0, .bool false])) :
    Go.Ev.Fn CX 5 [.int .i64 n, ratV s N D, .int .i64 p] (.bool true) := by
  have bg := law11_big s N D (by omega) (by omega)
  rw [decide_eq_false (by omega), decide_eq_false (by omega), Bool.or_false] at bg
  have kn := known11
  refine Go.Ev.Fn.intro (fn := Tryz.f5) (body := (Tryz.f5).body.get!) (by kernel_rfl) (by kernel_rfl) (by kernel_rfl) (fun _ => rfl) (Nat.le_of_ble_eq_true (by kernel_rfl)) ?_; unfold Tryz.f5; simp only [Option.get!_some]
  repeat (first | (simp only [go_sem, Nat.reduceEqDiff, Nat.reduceAdd, Nat.reduceSub, Nat.reduceMul, Nat.reduceLeDiff, Nat.reduceLT, reduceIte, reduceCtorEq, Nat.succ_ne_zero, elemsC, Int.reduceToNat, Nat.reducePow, Bool.not_false]) | (simp (disch := (first | omega | (simp only [AL, List.length_map]; omega))) only [AR, AL, ifT, ifF, take_all, List.length_cons, List.length_nil, Int.reduceToNat, Int.reducePow, Nat.reducePow, Bool.not_false]) | (refine wk_intro (by kernel_rfl) ?_) | (refine vf_of (by first | exact bg | exact f1 | exact f3 | exact f2 | exact kn) ?_))
theorem isides_good (hv : RatA (ratV s N D) x 7) (h1 : N.length ≤ 3) (h2 : D.length ≤ 3) (h0 : 0 ≤ x) (h64 : x ≤ 64) (hn : 1 ≤ n) (hn2 : n ≤ 30) (hP : P ≤ 60) : Go.Ev.Fn CX 5 [.int .i64 (n : Int), ratV s N D, .int .i64 (P : Int)] (.bool true) := by
  have bg := law11_big s N D (by omega) (by omega)
  rw [decide_eq_false (by omega), decide_eq_false (by omega), Bool.or_false] at bg
  have kn := known11
  obtain ⟨a, b, c, d, f1, f2, z1, z2, z3, z4, g1, g2, g3, g4⟩ := incg_balls (p := (P : Int)) (P := P) hv h0 h64 hn hn2 (.inr rfl) (by omega)
  have f3 := incg_Q hv z1 z2 f1
  have u : szR 1 1 := unit_len
  have y1 := szR_sub u z2 (by omega)
  have y2 := szR_sub u z1 (by omega)
  have ad := ref4_AddE z1 z2 y1 y2 (by omega) (by omega) (by omega)
  have i1 := ref2_Int 1 (by omega)
  have hs := ref4_Has (L := 1001) (szR_mono (szR_add z1 y1 (by omega)) (by omega)) (szR_mono (szR_add z2 y2 (by omega)) (by omega)) (RatA_rv (int_szR (n := 1) (by omega))) (by omega) (by omega) (by omega) (show a + (1 - b) ≤ ((1 : Int) : Rat) by rw [show ((1 : Int) : Rat) = 1 from rfl]; grind) (show ((1 : Int) : Rat) ≤ b + (1 - a) by rw [show ((1 : Int) : Rat) = 1 from rfl]; grind)
  clear g1 g2 g3 g4 z1 z2 z3 z4 h0 h64 f2 y1 y2
  generalize a + (1 - b) = q1 at *
  generalize b + (1 - a) = q2 at *
  generalize 1 - a = a' at *
  generalize 1 - b = b' at *
  refine Go.Ev.Fn.intro (fn := Tryz.f5) (body := (Tryz.f5).body.get!) (by kernel_rfl) (by kernel_rfl) (by kernel_rfl) (fun _ => rfl) (Nat.le_of_ble_eq_true (by kernel_rfl)) ?_; unfold Tryz.f5; simp only [Option.get!_some]
  repeat (first | (simp only [go_sem, Nat.reduceEqDiff, Nat.reduceAdd, Nat.reduceSub, Nat.reduceMul, Nat.reduceLeDiff, Nat.reduceLT, reduceIte, reduceCtorEq, Nat.succ_ne_zero, elemsC, Int.reduceToNat, Nat.reducePow, Bool.not_true]) | (simp (disch := (first | omega | (simp only [AL, List.length_map]; omega))) only [AR, AL, ifT, ifF, take_all, List.length_cons, List.length_nil, Int.reduceToNat, Int.reducePow, Nat.reducePow, Bool.not_true]) | (refine wk_intro (by kernel_rfl) ?_) | (refine vf_of (by first | exact bg | exact f1 | exact f3 | exact ad | exact i1 | exact hs | exact kn) ?_))
end
set_option maxRecDepth 100000 in
theorem isides_law (n : Int) (w0 : (Lit.int .i64 n).wf = true) (ss1 : List SV) (sh1 : ShpT Tryz.prog 6 24 ss1) (p : Int) (w2 : (Lit.int .i64 p).wf = true) :
    Go.Ev.Fn CX 5 [.int .i64 n, .agg ss1, .int .i64 p] (.bool true) := by
  obtain ⟨s, N, D, rfl, hN, hD, lN, lD⟩ := shp_rat (n := 3) sh1
  have r0 := wf_int64E w0
  have r2 := wf_int64E w2
  have mx : maxLen ≤ 9223372036854775807 := by decide
  by_cases c : 3 < N.length ∨ 3 < D.length ∨ p < 0 ∨ 60 < p ∨ 30 < n
  · exact isides_out (Nat.le_trans lN mx) (Nat.le_trans lD mx) r0 r2 c
  have c1 : N.length ≤ 3 := Nat.not_lt.1 fun h => c (.inl h)
  have c2 : D.length ≤ 3 := Nat.not_lt.1 fun h => c (.inr (.inl h))
  obtain ⟨x, hv⟩ : ∃ x : Rat, RatA (ratV s N D) x 7 := ⟨_, s, N, D, rfl, hN, hD, by omega, by omega, rfl⟩
  have bad : (n < 1 ∨ 256 < n ∨ x < 0 ∨ 64 < x) → Go.Ev.Fn CX 5 [.int .i64 n, ratV s N D, .int .i64 p] (.bool true) := fun h =>
    isides_bad c1 c2 (by omega) (by omega) (incg_Pout hv r0 h) (ref11_Pout hv r0 h) (incg_Qbad hv (incg_Pout hv r0 h))
  by_cases c4 : n < 1
  · exact bad (.inl c4)
  rcases rat_split x with h | ⟨h0, h64⟩
  · exact bad (.inr (.inr h))
  · obtain ⟨m, rfl⟩ : ∃ m : Nat, n = (m : Int) := ⟨n.toNat, by omega⟩
    obtain ⟨P, rfl⟩ : ∃ P : Nat, p = (P : Int) := ⟨p.toNat, by omega⟩
    exact isides_good hv c1 c2 h0 h64 (by omega) (by omega) (by omega)
end Go.Proofs.YtemnjalaincijaaGreat
