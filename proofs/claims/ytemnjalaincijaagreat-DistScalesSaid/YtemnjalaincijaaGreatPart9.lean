/- Part 9 of the proof: the evaluator, contracts of functions and their plain laws (joined by program). No condition. -/
import Derived.Test.YtemnjalaincijaaGreatPart8
import Derived.KernelRfl
/- nat.Bits, fix.Small; vernierref1.Bits, vernierref4.root, Sqrt, in the evaluator. -/
namespace Go.Proofs.YtemnjalaincijaaGreat
set_option linter.unusedSimpArgs false
set_option linter.unusedVariables false
set_option maxRecDepth 8000
open Go.Ev
theorem blen_iff {x k : Nat} : blen x ≤ k ↔ x < 2 ^ k := by
  unfold blen
  by_cases h : x = 0
  · rw [if_pos h, h]
    have : 0 < 2 ^ k := Nat.pow_pos (by omega)
    omega
  · rw [if_neg h]
    have := Nat.log2_lt (n := x) (k := k) h
    omega
theorem blen_lims (N : Nat) (h : N ≠ 0) : blen N = 32 * ((lim N).length - 1) + blen ((lim N).getD ((lim N).length - 1) 0) := by
  have h0 := lim_pos h
  have ht := trimL_getD (trimL_lim N) h0
  have hw := wth_lim N
  have hok := okL_lim N
  generalize lim N = a at *
  have h1 := wth_at a (w := a.length - 1) (by omega)
  rw [List.drop_of_length_le (by omega), show wth [] = 0 from rfl, Nat.mul_zero, Nat.add_zero, hw] at h1
  have h2 := wth_lt (okL_take hok (a.length - 1))
  rw [List.length_take, Nat.min_eq_left (by omega)] at h2
  rw [show (4294967296 : Nat) = 2 ^ 32 from rfl, ← Nat.pow_mul] at h1 h2
  have hp : 0 < 2 ^ (32 * (a.length - 1)) := Nat.pow_pos (by omega)
  have h3 : N / 2 ^ (32 * (a.length - 1)) = a.getD (a.length - 1) 0 := by
    rw [h1, Nat.add_mul_div_left _ _ hp, Nat.div_eq_of_lt h2, Nat.zero_add]
  have h4 : 2 ^ (32 * (a.length - 1)) ≤ N := by
    have := Nat.mul_le_mul_left (2 ^ (32 * (a.length - 1))) (show 1 ≤ a.getD (a.length - 1) 0 by omega)
    omega
  rw [blen_shift h4, h3]
theorem nat_Bits {N : Nat} (h : (lim N).length ≤ 300000000) : Go.Ev.Fn CX 182 [natV (lim N)] (.int .i64 (blen N : Nat)) := by
  have t := nat_trim (lim N) (okL_lim N) (by omega)
  rw [wth_lim] at t
  by_cases h0 : N = 0
  · subst h0
    have e : (lim 0).length = 0 := by rw [lim_zero]; rfl
    have e2 : blen 0 = 0 := rfl
    rw [e2]
    refine Go.Ev.Fn.intro (fn := Tryz.f182) (body := (Tryz.f182).body.get!) (by kernel_rfl) (by kernel_rfl) (by kernel_rfl) (fun _ => rfl) (Nat.le_of_ble_eq_true (by kernel_rfl)) ?_; unfold Tryz.f182; simp only [Option.get!_some]
    repeat (first | (simp only [go_sem, Nat.reduceEqDiff, Nat.reduceAdd, Nat.reduceSub, Nat.reduceMul, Nat.reduceLeDiff, Nat.reduceLT, reduceIte, reduceCtorEq, Nat.succ_ne_zero, elemsC, Int.reduceToNat, Nat.reducePow]) | (simp (disch := (first | omega | (simp only [AL, List.length_map]; omega))) only [AR, AL, ifT, ifF, take_all, List.length_cons, List.length_nil, Int.reduceToNat, Int.reducePow, Nat.reducePow]) | (refine wk_intro (by kernel_rfl) ?_) | (refine vf_of (by first | exact t) ?_))
    rfl
  · have e := blen_lims N h0
    have hl := lim_pos h0
    have hg := getD_lt (okL_lim N) ((lim N).length - 1)
    have b := bits_Len32 _ hg
    have hb : blen ((lim N).getD ((lim N).length - 1) 0) ≤ 32 := blen_iff.2 hg
    rw [e]
    generalize hgx : (lim N).getD ((lim N).length - 1) 0 = x at *
    generalize hcs : lim N = cs at *
    have hi : (cs.map limb).length = cs.length := List.length_map _
    have hat : ((cs.map limb).drop (cs.length - 1)).head? = some (limb x) := by
      rw [List.head?_drop, List.getElem?_map, List.getElem?_eq_getElem (by omega)]
      rw [List.getD_eq_getElem?_getD, List.getElem?_eq_getElem (by omega)] at hgx
      rw [← hgx]; rfl
    generalize blen x = y at *
    refine Go.Ev.Fn.intro (fn := Tryz.f182) (body := (Tryz.f182).body.get!) (by kernel_rfl) (by kernel_rfl) (by kernel_rfl) (fun _ => rfl) (Nat.le_of_ble_eq_true (by kernel_rfl)) ?_; unfold Tryz.f182; simp only [Option.get!_some]
    repeat (first | (simp only [go_sem, Nat.reduceEqDiff, Nat.reduceAdd, Nat.reduceSub, Nat.reduceMul, Nat.reduceLeDiff, Nat.reduceLT, reduceIte, reduceCtorEq, Nat.succ_ne_zero, elemsC, Int.reduceToNat, Nat.reducePow, hgx]) | (simp (disch := (first | omega | (simp only [AL, List.length_map]; omega))) only [AR, AL, ifT, ifF, take_all, List.length_cons, List.length_nil, Int.reduceToNat, Int.reducePow, Nat.reducePow, hgx]) | (refine wk_intro (by kernel_rfl) ?_) | (refine vf_of (by first | exact t | exact b) ?_))
    congr 1
theorem fix_Small {a b : Nat} (h : (lim b).length ≤ 300000000) {k : Nat} (hk : k ≤ 1000) : Go.Ev.Fn CX 129 [spanV a b, .int .i64 (k : Int)] (.bool (decide (b < 2 ^ k))) := by
  have s := nat_Bits h
  rw [show decide (b < 2 ^ k) = decide (((blen b : Nat) : Int) ≤ (k : Int)) from decide_eq_decide.2 (by rw [← blen_iff]; omega)]
  generalize blen b = x at *
  refine Go.Ev.Fn.intro (fn := Tryz.f129) (body := (Tryz.f129).body.get!) (by kernel_rfl) (by kernel_rfl) (by kernel_rfl) (fun _ => rfl) (Nat.le_of_ble_eq_true (by kernel_rfl)) ?_; unfold Tryz.f129; simp only [Option.get!_some]
  repeat (first | (simp only [go_sem, Nat.reduceEqDiff, Nat.reduceAdd, Nat.reduceSub, Nat.reduceMul, Nat.reduceLeDiff, Nat.reduceLT, reduceIte, reduceCtorEq, Nat.succ_ne_zero, elemsC, Int.reduceToNat, Nat.reducePow]) | (simp (disch := (first | omega | (simp only [AL, List.length_map]; omega))) only [AR, AL, ifT, ifF, take_all, List.length_cons, List.length_nil, Int.reduceToNat, Int.reducePow, Nat.reducePow]) | (refine wk_intro (by kernel_rfl) ?_) | (refine vf_of (by first | exact s) ?_))
end Go.Proofs.YtemnjalaincijaaGreat

/- Pi, to so many digits: pure functions on naturals that mirror arcs.pi and vernierref8.PiIv; the kernel reckons them at all widths that are wanted. No program. -/
namespace Go.Ev
/-- A number is reckoned before it is handed on. -/
def pin {α : Type} (n : Nat) (f : Nat → α) : α := match n with
  | 0 => f 0
  | m + 1 => f (m + 1)
/-- arcs.angle's rounds: the terms by Euler's row, until the last one is small. -/
def angGo (w b1 b2 : Nat) : Nat → Nat → Nat → Nat → Nat → Nat → Option (Nat × Nat)
  | 0, _, _, _, _, _ => none
  | f + 1, k, t1, t2, a1, a2 => if t2 < 4 then some (a1, a2 + 8) else
    pin (t1 * b1 / 2 ^ w * (2 * k) / (2 * k + 1)) fun u1 => pin ((t2 * b2 / 2 ^ w + 1) * (2 * k) / (2 * k + 1) + 1) fun u2 =>
    pin (a1 + u1) fun c1 => pin (a2 + u2) fun c2 => pin (k + 1) fun k' => angGo w b1 b2 f k' u1 u2 c1 c2
def angF (n d w : Nat) : Option (Nat × Nat) :=
  pin (n * n * 2 ^ w / (n * n + d * d)) fun b1 => pin (n * d * 2 ^ w / (n * n + d * d)) fun t1 => angGo w b1 (b1 + 1) 1000 1 t1 (t1 + 1) t1 (t1 + 1)
/-- arcs.pi. -/
def piF (w : Nat) : Option (Nat × Nat) := match angF 1 5 w, angF 1 239 w with
  | some (a1, a2), some (b1, b2) => some (a1 * 16 - (b2 * 4 + 1), (a2 * 16 + 1 - b1 * 4) + 1)
  | _, _ => none
/-- The root of pi, times 2 to 400. -/
def rootPi : Nat := 4576918740415440415430138886030104330034393630387746481038405196946375920276839941112766425178723903652484208164514262098
/-- At so many digits pi lies between two whole numbers, for certain: and the constant's square does. -/
def piOk (p : Nat) : Bool := match piF (p + 64) with
  | some (lo, hi) => pin (lo / 2 ^ 64) fun a => Nat.beq a ((hi - 1) / 2 ^ 64) && (Nat.ble (a * 2 ^ (800 - p)) (rootPi * rootPi) && Nat.ble (rootPi * rootPi) ((a + 1) * 2 ^ (800 - p)))
  | none => false
def allFrom (f : Nat → Bool) : Nat → Nat → Bool
  | 0, _ => true
  | n + 1, k => f k && allFrom f n (k + 1)
theorem pi_ok : allFrom piOk 217 8 = true := by kernel_rfl
/-- Rounded up. -/
def cdv (a b : Nat) : Nat := (a + b - 1) / b
/-- vernierref8.small's rounds; what is added and what is taken away stands apart: the sum is a1 .. a2 less b1 .. b2. -/
def smGo (w s1 s2 : Nat) : Nat → Nat → Bool → Nat → Nat → Nat → Nat → Nat → Nat → Option (Nat × Nat × Nat × Nat)
  | 0, _, _, _, _, _, _, _, _ => none
  | f + 1, i, odd, t1, t2, a1, a2, b1, b2 =>
    pin (t1 * s1 / 2 ^ w) fun u1 => pin (cdv (t2 * s2) (2 ^ w)) fun u2 => pin (u1 / (2 * i + 1)) fun x1 => pin (cdv u2 (2 * i + 1)) fun x2 => pin (i + 1) fun i' =>
    match odd with
    | true => pin (b1 + x1) fun c1 => pin (b2 + x2) fun c2 => if u2 ≤ 2 then some (a1, a2, c1, c2) else smGo w s1 s2 f i' false u1 u2 a1 a2 c1 c2
    | false => pin (a1 + x1) fun c1 => pin (a2 + x2) fun c2 => if u2 ≤ 2 then some (c1, c2, b1, b2) else smGo w s1 s2 f i' true u1 u2 c1 c2 b1 b2
def smF (d w : Nat) : Option (Nat × Nat) := pin (2 ^ w / d) fun y1 => pin (cdv (2 ^ w) d) fun y2 => pin (y1 * y1 / 2 ^ w) fun s1 => pin (cdv (y2 * y2) (2 ^ w)) fun s2 =>
  match smGo w s1 s2 1000 1 true y1 y2 y1 y2 0 0 with
  | some (a1, a2, b1, b2) => if b2 + 4 ≤ a1 ∧ b1 ≤ a2 then some (a1 - b2 - 4, a2 - b1 + 4) else none
  | none => none
/-- vernierref8.PiIv. -/
def piIv (w : Nat) : Option (Nat × Nat) := match smF 5 (w + 10), smF 239 (w + 10) with
  | some (a1, a2), some (b1, b2) => if b2 * 4 ≤ a1 * 16 ∧ b1 * 4 ≤ a2 * 16 then some ((a1 * 16 - b2 * 4) / 2 ^ 10, cdv (a2 * 16 - b1 * 4) (2 ^ 10)) else none
  | _, _ => none
def ivOk (w : Nat) : Bool := match piIv w with
  | some (lo, hi) => Nat.ble (lo * 2 ^ (800 - w)) (rootPi * rootPi) && Nat.ble (rootPi * rootPi) (hi * 2 ^ (800 - w))
  | none => false
theorem iv_ok : allFrom ivOk 121 190 = true := by kernel_rfl
end Go.Ev

/- Numbers below a power of two, their limbs. -/
namespace Go.Proofs.YtemnjalaincijaaGreat
open Go.Ev
theorem pin_eq {α : Type} (n : Nat) (f : Nat → α) : pin n f = f n := by cases n <;> rfl
theorem lim_len_p2 {n w : Nat} (h : n ≤ 2 ^ w) (hw : w ≤ 1000) : (lim n).length ≤ 40 := by
  have l := lim_len_shl (a := 1) (n := w)
  have l1 := lim_len1
  rw [Nat.one_mul] at l
  have := lim_len_mono h
  omega
/-- There is a root, rounded down. -/
theorem sqrt_ex (a : Nat) : ∃ r, r * r ≤ a ∧ a < (r + 1) * (r + 1) := by
  induction a with
  | zero => exact ⟨0, by omega, by omega⟩
  | succ a ih =>
    obtain ⟨r, h1, h2⟩ := ih
    by_cases h : (r + 1) * (r + 1) ≤ a + 1
    · refine ⟨r + 1, h, ?_⟩
      have : (r + 1 + 1) * (r + 1 + 1) = (r + 1) * (r + 1) + (r + 1) + (r + 2) := by
        rw [Nat.add_mul, Nat.mul_add]; omega
      omega
    · exact ⟨r, by omega, by omega⟩
noncomputable def rtN (a : Nat) : Nat := (sqrt_ex a).choose
theorem rtN_le (a : Nat) : rtN a * rtN a ≤ a := (sqrt_ex a).choose_spec.1
theorem lt_rtN (a : Nat) : a < (rtN a + 1) * (rtN a + 1) := (sqrt_ex a).choose_spec.2
theorem rtN_eq {a r : Nat} (h1 : r * r ≤ a) (h2 : a < (r + 1) * (r + 1)) : r = rtN a := by
  have h3 := rtN_le a
  have h4 := lt_rtN a
  rcases Nat.lt_trichotomy r (rtN a) with h | h | h
  · have := Nat.mul_le_mul (show r + 1 ≤ rtN a from h) (show r + 1 ≤ rtN a from h)
    omega
  · exact h
  · have := Nat.mul_le_mul (show rtN a + 1 ≤ r from h) (show rtN a + 1 ≤ r from h)
    omega
theorem rtN_self (a : Nat) : rtN a ≤ a := by
  have := rtN_le a
  rcases Nat.eq_zero_or_pos (rtN a) with h | h
  · omega
  · have := Nat.le_mul_of_pos_left (rtN a) h
    omega
end Go.Proofs.YtemnjalaincijaaGreat

/- arcs: angle, pi, held, Pi; fix.Certain, in the evaluator. -/
namespace Go.Proofs.YtemnjalaincijaaGreat
set_option linter.unusedSimpArgs false
set_option linter.unusedVariables false
set_option maxRecDepth 8000
open Go.Ev
theorem times_le {x k : Nat} : (x + 1) * (2 * k) / (2 * k + 1) + 1 ≤ x + 2 := by
  have h : (x + 1) * (2 * k) / (2 * k + 1) ≤ x + 1 := (Nat.div_le_iff_le_mul (by omega)).2 (by have := Nat.mul_le_mul_left (x + 1) (show 2 * k ≤ 2 * k + 1 by omega); omega)
  omega
set_option maxHeartbeats 1000000 in
theorem arcs_angle {n d w A B : Nat} (hn : n ≤ 1000) (hd : d ≤ 1000) (hd0 : 0 < d) (hw : w ≤ 900) (hw0 : 0 < w) (h : angF n d w = some (A, B)) : Go.Ev.Fn CX 214 [natV (lim n), natV (lim d), .int .i64 (w : Int)] (spanV A B) := by
  unfold angF at h
  rw [pin_eq, pin_eq] at h
  have ln : (lim n).length ≤ 1 := lim_len_one (by omega)
  have ld : (lim d).length ≤ 1 := lim_len_one (by omega)
  have m1 := nat_MulL (N := n) (D := n) (by omega) (by omega)
  have m2 := nat_MulL (N := d) (D := d) (by omega) (by omega)
  have m3 := nat_MulL (N := n) (D := d) (by omega) (by omega)
  have lnn := lim_len_mul (a := n) (b := n)
  have ldd := lim_len_mul (a := d) (b := d)
  have lnd := lim_len_mul (a := n) (b := d)
  have s1 := nat_AddL (N := n * n) (D := d * d) (by omega) (by omega)
  have lsq := lim_len_add (a := n * n) (b := d * d) (L := 2) (by omega) (by omega)
  have hdd : 0 < d * d := Nat.mul_pos hd0 hd0
  have hnd : n * d ≤ n * n + d * d := by
    rcases Nat.le_total n d with g | g
    · have := Nat.mul_le_mul_right d g; omega
    · have := Nat.mul_le_mul_left n g; omega
  have o1 := fix_Of (n := n * n) (d := n * n + d * d) (w := w) (by omega) (by omega) (by omega) (by omega)
  have o2 := fix_Of (n := n * d) (d := n * n + d * d) (w := w) (by omega) (by omega) (by omega) (by omega)
  have hb1 : n * n * 2 ^ w / (n * n + d * d) < 2 ^ w := by
    rw [Nat.div_lt_iff_lt_mul (by omega), Nat.mul_comm (2 ^ w)]
    exact Nat.mul_lt_mul_of_pos_right (by omega) (Nat.pow_pos (by omega))
  have ht1 : n * d * 2 ^ w / (n * n + d * d) ≤ 2 ^ w := (Nat.div_le_iff_le_mul (by omega)).2 (by have := Nat.mul_le_mul_right (2 ^ w) hnd; rw [Nat.mul_comm (2 ^ w)]; omega)
  generalize n * n * 2 ^ w / (n * n + d * d) = b1 at *
  generalize n * d * 2 ^ w / (n * n + d * d) = t0 at *
  generalize n * n + d * d = sq at *
  generalize n * n = nn at *
  generalize d * d = dd at *
  generalize n * d = nd at *
  have hP : 0 < 2 ^ w := Nat.pow_pos (by omega)
  have lb := lim_len_p2 (n := b1) (w := w) (by omega) (by omega)
  have lb2 := lim_len_p2 (n := b1 + 1) (w := w) (by omega) (by omega)
  have big : 2 ^ w * 2048 = 2 ^ (w + 11) := by rw [Nat.pow_add]
  have big2 : 2 ^ (w + 11) * 2048 = 2 ^ (w + 22) := by rw [show w + 22 = (w + 11) + 11 by omega, Nat.pow_add 2 (w + 11) 11]
  refine Go.Ev.Fn.intro (fn := Tryz.f214) (body := (Tryz.f214).body.get!) (by kernel_rfl) (by kernel_rfl) (by kernel_rfl) (fun _ => rfl) (Nat.le_of_ble_eq_true (by kernel_rfl)) ?_; unfold Tryz.f214; simp only [Option.get!_some]
  repeat (first | (simp only [go_sem, Nat.reduceEqDiff, Nat.reduceAdd, Nat.reduceSub, Nat.reduceMul, Nat.reduceLeDiff, Nat.reduceLT, reduceIte, reduceCtorEq, Nat.succ_ne_zero, elemsC, Int.reduceToNat, Nat.reducePow]) | (simp (disch := (first | omega | (simp only [AL, List.length_map]; omega))) only [AR, AL, ifT, ifF, take_all, List.length_cons, List.length_nil, Int.reduceToNat, Int.reducePow, Nat.reducePow]) | (refine wk_intro (by kernel_rfl) ?_) | (refine vf_of (by first | exact m1 | exact m2 | exact s1 | exact o1 | exact m3 | exact o2) ?_))
  refine vp_loop_inv (fun s => s.tmp 2 = .sv (.int .i64 (w : Int)) ∧ s.tmp 6 = .ptr 6 0 0 ∧ s.obj 6 0 = some [.sl 0 [], .sl 0 []] ∧ s.tmp 8 = .ptr 8 0 0 ∧ s.obj 8 0 = some [natV (lim b1), natV (lim (b1 + 1))] ∧ s.tmp 9 = .ptr 9 0 0 ∧ s.tmp 10 = .ptr 10 0 0 ∧
      ∃ f k t1 t2 a1 a2 : Nat, s.tmp 11 = .sv (.int .u64 (k : Int)) ∧ f + k = 1001 ∧ 1 ≤ k ∧ angGo w b1 (b1 + 1) f k t1 t2 a1 a2 = some (A, B) ∧ s.obj 9 0 = some [natV (lim t1), natV (lim t2)] ∧ s.obj 10 0 = some [natV (lim a1), natV (lim a2)] ∧
        t1 ≤ t2 ∧ t2 ≤ 2 ^ w + 2 * k ∧ a1 ≤ a2 ∧ a2 ≤ k * 2 ^ (w + 11))
    (fun s => match s.tmp 11 with | .sv (.int _ i) => 1002 - i.toNat | _ => 0) ⟨rfl, rfl, rfl, rfl, rfl, rfl, rfl, 1000, 1, t0, t0 + 1, t0, t0 + 1, rfl, rfl, by omega, h, rfl, rfl, by omega, by omega, by omega, by omega⟩ ?_
  rintro s ⟨i2, i6, o6, i8, o8, i9, i10, f, k, t1, t2, a1, a2, i11, hfk, hk, hg, o9, o10, g1, g2, g3, g4⟩
  have hk2 : k * 2 ^ (w + 11) ≤ 1001 * 2 ^ (w + 11) := Nat.mul_le_mul_right _ (by omega)
  have lt2 := lim_len_p2 (n := t2) (w := w + 11) (by omega) (by omega)
  have lt1 := lim_len_p2 (n := t1) (w := w + 11) (by omega) (by omega)
  have la2 := lim_len_p2 (n := a2) (w := w + 22) (by omega) (by omega)
  have la1 := lim_len_p2 (n := a1) (w := w + 22) (by omega) (by omega)
  have sm := fix_Small (a := t1) (b := t2) (by omega) (k := 2) (by omega)
  cases f with
  | zero => simp only [angGo] at hg; cases hg
  | succ f =>
    rw [angGo] at hg
    simp only [pin_eq] at hg
    by_cases hs : t2 < 2 ^ 2
    · rw [decide_eq_true hs] at sm
      rw [if_pos (show t2 < 4 from hs)] at hg
      obtain ⟨rfl, rfl⟩ : a1 = A ∧ a2 + 8 = B := by simpa using hg
      have wd := fix_Wider (a := a1) (b := a2) (n := 8) (by omega) (by omega) (by omega)
      clear hg
      repeat (first | (simp only [go_sem, Nat.reduceEqDiff, Nat.reduceAdd, Nat.reduceSub, Nat.reduceMul, Nat.reduceLeDiff, Nat.reduceLT, reduceIte, reduceCtorEq, Nat.succ_ne_zero, elemsC, Int.reduceToNat, Nat.reducePow, i2, i6, o6, i8, o8, i9, i10, i11, o9, o10, Bool.not_true]) | (simp (disch := (first | omega | (simp only [AL, List.length_map]; omega))) only [AR, AL, ifT, ifF, take_all, List.length_cons, List.length_nil, Int.reduceToNat, Int.reducePow, Nat.reducePow, i2, i6, o6, i8, o8, i9, i10, i11, o9, o10, Bool.not_true]) | (refine wk_intro (by kernel_rfl) ?_) | (refine vf_of (by first | exact sm | exact wd) ?_))
    · rw [decide_eq_false hs] at sm
      rw [if_neg (show ¬ t2 < 4 from hs)] at hg
      have mu := fix_Mul (a := t1) (b := t2) (c := b1) (d := b1 + 1) (w := w) (by omega) (by omega) (by omega) (by omega) (by omega) hw0
      have q1 := nat_Of (2 * k) (by omega)
      have q2 := nat_Of (2 * k + 1) (by omega)
      have l1 : (lim (2 * k)).length ≤ 1 := lim_len_one (by omega)
      have l2 : (lim (2 * k + 1)).length ≤ 1 := lim_len_one (by omega)
      have hx : t2 * (b1 + 1) / 2 ^ w ≤ t2 := (Nat.div_le_iff_le_mul hP).2 (by have := Nat.mul_le_mul_left t2 (show b1 + 1 ≤ 2 ^ w by omega); omega)
      have hy : t1 * b1 / 2 ^ w ≤ t2 * (b1 + 1) / 2 ^ w := Nat.div_le_div_right (Nat.mul_le_mul g1 (by omega))
      generalize t1 * b1 / 2 ^ w = x1 at *
      generalize t2 * (b1 + 1) / 2 ^ w = x2 at *
      have lx2 := lim_len_p2 (n := x2 + 1) (w := w + 11) (by omega) (by omega)
      have lx1 := lim_len_p2 (n := x1) (w := w + 11) (by omega) (by omega)
      have ti := fix_Times (a := x1) (b := x2 + 1) (n := 2 * k) (d := 2 * k + 1) (by omega) (by omega) (by omega) (by omega) (by omega)
      have hz := times_le (x := x2) (k := k)
      have hz2 : x1 * (2 * k) / (2 * k + 1) ≤ (x2 + 1) * (2 * k) / (2 * k + 1) + 1 := Nat.le_succ_of_le (Nat.div_le_div_right (Nat.mul_le_mul_right _ (by omega)))
      generalize x1 * (2 * k) / (2 * k + 1) = u1 at *
      generalize (x2 + 1) * (2 * k) / (2 * k + 1) + 1 = u2 at *
      have lu2 := lim_len_p2 (n := u2) (w := w + 11) (by omega) (by omega)
      have lu1 := lim_len_p2 (n := u1) (w := w + 11) (by omega) (by omega)
      have ad := fix_Add (a := a1) (b := a2) (c := u1) (d := u2) (by omega) (by omega) (by omega) (by omega)
      have e1 : ((2 * k : Nat) : Int) = 2 * (k : Int) := by omega
      have e2 : ((2 * k + 1 : Nat) : Int) = 2 * (k : Int) + 1 := by omega
      rw [e1] at q1
      rw [e2] at q2
      repeat (first | (simp only [go_sem, Nat.reduceEqDiff, Nat.reduceAdd, Nat.reduceSub, Nat.reduceMul, Nat.reduceLeDiff, Nat.reduceLT, reduceIte, reduceCtorEq, Nat.succ_ne_zero, elemsC, Int.reduceToNat, Nat.reducePow, i2, i6, o6, i8, o8, i9, i10, i11, o9, o10, Bool.not_false]) | (simp (disch := (first | omega | (simp only [AL, List.length_map]; omega))) only [AR, AL, ifT, ifF, take_all, List.length_cons, List.length_nil, Int.reduceToNat, Int.reducePow, Nat.reducePow, i2, i6, o6, i8, o8, i9, i10, i11, o9, o10, Bool.not_false]) | (refine wk_intro (by kernel_rfl) ?_) | (refine vf_of (by first | exact sm | exact mu | exact q1 | exact q2 | exact ti | exact ad) ?_))
      exact ⟨⟨f, k + 1, u1, u2, a1 + u1, a2 + u2, rfl, by omega, by omega, hg, rfl, rfl, by omega, by omega, by omega, by rw [Nat.add_mul, Nat.one_mul]; omega⟩, by omega⟩
theorem fix_Certain1 {p sp lo hi : Nat} {f : FuncId} (hf : Go.Ev.Fn CX f [.int .i64 ((p + sp : Nat) : Int)] (spanV lo hi)) (hlo : (lim lo).length ≤ 1000) (hhi : (lim hi).length ≤ 1000) (hp : p ≤ 10000) (hsp : sp ≤ 1000) (hs0 : 0 < sp) (hc : lo / 2 ^ sp = (hi - 1) / 2 ^ sp) :
    Go.Ev.Fn CX 117 [.int .i64 (p : Int), .int .i64 (sp : Int), .fn f []] (ballR (mkRat ((lo / 2 ^ sp : Nat) : Int) (2 ^ p)) (mkRat ((lo / 2 ^ sp + 1 : Nat) : Int) (2 ^ p))) := by
  have fl := fix_Floor (a := lo) (b := hi) (w := p + sp) (p := p) (by omega) (by omega) (by omega) (by omega)
  rw [Nat.add_sub_cancel_left, decide_eq_true hc] at fl
  have o := fix_One
  have l1 := lim_len1
  have sh := fix_shl (a := 1) (m := p) (by omega) (by omega)
  have lp := lim_len_shl (a := 1) (n := p)
  rw [Nat.one_mul] at sh lp
  have ll := lim_len_mono (Nat.div_le_self lo (2 ^ sp))
  have n1 := fix_Next (a := lo / 2 ^ sp) (by omega)
  have l2 := lim_len_add (a := lo / 2 ^ sp) (b := 1) (L := 1000) (by omega) (by omega)
  have r1 := rat_OfL (s := false) (n := lo / 2 ^ sp) (d := 2 ^ p) (by omega) (by omega)
  have r2 := rat_OfL (s := false) (n := lo / 2 ^ sp + 1) (d := 2 ^ p) (by omega) (by omega)
  rw [show sgn false (lo / 2 ^ sp) = ((lo / 2 ^ sp : Nat) : Int) from rfl] at r1
  rw [show sgn false (lo / 2 ^ sp + 1) = ((lo / 2 ^ sp + 1 : Nat) : Int) from rfl] at r2
  generalize mkRat ((lo / 2 ^ sp : Nat) : Int) (2 ^ p) = q1 at *
  generalize mkRat ((lo / 2 ^ sp + 1 : Nat) : Int) (2 ^ p) = q2 at *
  generalize lo / 2 ^ sp + 1 = a' at *
  generalize lo / 2 ^ sp = a at *
  generalize 2 ^ p = P at *
  rw [show ((p + sp : Nat) : Int) = (p : Int) + (sp : Int) from rfl] at hf fl
  refine Go.Ev.Fn.intro (fn := Tryz.f117) (body := (Tryz.f117).body.get!) (by kernel_rfl) (by kernel_rfl) (by kernel_rfl) (fun _ => rfl) (Nat.le_of_ble_eq_true (by kernel_rfl)) ?_; unfold Tryz.f117; simp only [Option.get!_some]
  repeat (first | (simp only [go_sem, Nat.reduceEqDiff, Nat.reduceAdd, Nat.reduceSub, Nat.reduceMul, Nat.reduceLeDiff, Nat.reduceLT, reduceIte, reduceCtorEq, Nat.succ_ne_zero, elemsC, Int.reduceToNat, Nat.reducePow]) | (simp (disch := (first | omega | (simp only [AL, List.length_map]; omega))) only [AR, AL, ifT, ifF, take_all, List.length_cons, List.length_nil, Int.reduceToNat, Int.reducePow, Nat.reducePow]) | (refine wk_intro (by kernel_rfl) ?_))
  refine vp_loop_inv (fun s => s.tmp 0 = .sv (.int .i64 (p : Int)) ∧ s.tmp 2 = .sv (.fn f []) ∧ s.tmp 6 = .ptr 6 0 0 ∧ s.obj 6 0 = some [.bool false, .sl 0 [], .sl 0 [], .bool false, .sl 0 [], .sl 0 []] ∧ s.tmp 7 = .sv (.int .i64 ((p : Int) + (sp : Int)))) (fun _ => 0) ⟨rfl, rfl, rfl, rfl, rfl⟩ ?_
  rintro s ⟨i0, i2, i6, o6, i7⟩
  repeat (first | (simp only [go_sem, Nat.reduceEqDiff, Nat.reduceAdd, Nat.reduceSub, Nat.reduceMul, Nat.reduceLeDiff, Nat.reduceLT, reduceIte, reduceCtorEq, Nat.succ_ne_zero, elemsC, Int.reduceToNat, Nat.reducePow, i0, i2, i6, o6, i7]) | (simp (disch := (first | omega | (simp only [AL, List.length_map]; omega))) only [AR, AL, ifT, ifF, take_all, List.length_cons, List.length_nil, Int.reduceToNat, Int.reducePow, Nat.reducePow, i0, i2, i6, o6, i7]) | (refine wk_intro (by kernel_rfl) ?_) | (refine vf_of (by first | exact hf | exact fl | exact o | exact sh | exact r1 | exact n1 | exact r2) ?_))
theorem arcs_held (p : Int) : Go.Ev.Fn CX 189 [.int .i64 p] (.int .i64 (if p < 0 then 0 else if 512 < p then 512 else p)) := by
  by_cases h1 : p < 0
  · rw [if_pos h1]
    have e1 : (if (0 : Int) > p then (0 : Int) else p) = 0 := if_pos (by omega)
    refine Go.Ev.Fn.intro (fn := Tryz.f189) (body := (Tryz.f189).body.get!) (by kernel_rfl) (by kernel_rfl) (by kernel_rfl) (fun _ => rfl) (Nat.le_of_ble_eq_true (by kernel_rfl)) ?_; unfold Tryz.f189; simp only [Option.get!_some]
    repeat (first | (simp only [go_sem, Nat.reduceEqDiff, Nat.reduceAdd, Nat.reduceSub, Nat.reduceMul, Nat.reduceLeDiff, Nat.reduceLT, reduceIte, reduceCtorEq, Nat.succ_ne_zero, elemsC, Int.reduceToNat, Nat.reducePow, e1]) | (simp (disch := (first | omega | (simp only [AL, List.length_map]; omega))) only [AR, AL, ifT, ifF, take_all, List.length_cons, List.length_nil, Int.reduceToNat, Int.reducePow, Nat.reducePow, e1]) | (refine wk_intro (by kernel_rfl) ?_))
  · rw [if_neg h1]
    have e1 : (if (0 : Int) > p then (0 : Int) else p) = p := if_neg (by omega)
    by_cases h2 : 512 < p
    · rw [if_pos h2]
      have e2 : (if (512 : Int) < p then (512 : Int) else p) = 512 := if_pos h2
      refine Go.Ev.Fn.intro (fn := Tryz.f189) (body := (Tryz.f189).body.get!) (by kernel_rfl) (by kernel_rfl) (by kernel_rfl) (fun _ => rfl) (Nat.le_of_ble_eq_true (by kernel_rfl)) ?_; unfold Tryz.f189; simp only [Option.get!_some]
      repeat (first | (simp only [go_sem, Nat.reduceEqDiff, Nat.reduceAdd, Nat.reduceSub, Nat.reduceMul, Nat.reduceLeDiff, Nat.reduceLT, reduceIte, reduceCtorEq, Nat.succ_ne_zero, elemsC, Int.reduceToNat, Nat.reducePow, e1, e2]) | (simp (disch := (first | omega | (simp only [AL, List.length_map]; omega))) only [AR, AL, ifT, ifF, take_all, List.length_cons, List.length_nil, Int.reduceToNat, Int.reducePow, Nat.reducePow, e1, e2]) | (refine wk_intro (by kernel_rfl) ?_))
    · rw [if_neg h2]
      have e2 : (if (512 : Int) < p then (512 : Int) else p) = p := if_neg h2
      refine Go.Ev.Fn.intro (fn := Tryz.f189) (body := (Tryz.f189).body.get!) (by kernel_rfl) (by kernel_rfl) (by kernel_rfl) (fun _ => rfl) (Nat.le_of_ble_eq_true (by kernel_rfl)) ?_; unfold Tryz.f189; simp only [Option.get!_some]
      repeat (first | (simp only [go_sem, Nat.reduceEqDiff, Nat.reduceAdd, Nat.reduceSub, Nat.reduceMul, Nat.reduceLeDiff, Nat.reduceLT, reduceIte, reduceCtorEq, Nat.succ_ne_zero, elemsC, Int.reduceToNat, Nat.reducePow, e1, e2]) | (simp (disch := (first | omega | (simp only [AL, List.length_map]; omega))) only [AR, AL, ifT, ifF, take_all, List.length_cons, List.length_nil, Int.reduceToNat, Int.reducePow, Nat.reducePow, e1, e2]) | (refine wk_intro (by kernel_rfl) ?_))
theorem angGo_bd {w b1 b2 T : Nat} (hb : b1 ≤ b2) (hb2 : b2 ≤ 2 ^ w) : ∀ (f k t1 t2 a1 a2 : Nat) {A B : Nat}, angGo w b1 b2 f k t1 t2 a1 a2 = some (A, B) → t1 ≤ t2 → t2 + 2 * f ≤ T → a1 ≤ a2 → A ≤ B ∧ B ≤ a2 + f * T + 8 := by
  intro f
  induction f with
  | zero => intro k t1 t2 a1 a2 A B h; simp only [angGo] at h; cases h
  | succ f ih =>
    intro k t1 t2 a1 a2 A B h ht hT ha
    have hP : 0 < 2 ^ w := Nat.pow_pos (by omega)
    rw [angGo] at h
    simp only [pin_eq] at h
    rw [Nat.add_mul, Nat.one_mul]
    by_cases hs : t2 < 4
    · rw [if_pos hs] at h
      obtain ⟨rfl, rfl⟩ : a1 = A ∧ a2 + 8 = B := by simpa using h
      omega
    · rw [if_neg hs] at h
      have hx : t2 * b2 / 2 ^ w ≤ t2 := (Nat.div_le_iff_le_mul hP).2 (by have := Nat.mul_le_mul_left t2 hb2; omega)
      have hy : t1 * b1 / 2 ^ w ≤ t2 * b2 / 2 ^ w := Nat.div_le_div_right (Nat.mul_le_mul ht hb)
      have hz := times_le (x := t2 * b2 / 2 ^ w) (k := k)
      have hz2 : t1 * b1 / 2 ^ w * (2 * k) / (2 * k + 1) ≤ (t2 * b2 / 2 ^ w + 1) * (2 * k) / (2 * k + 1) + 1 := Nat.le_succ_of_le (Nat.div_le_div_right (Nat.mul_le_mul_right _ (by omega)))
      generalize t1 * b1 / 2 ^ w * (2 * k) / (2 * k + 1) = u1 at *
      generalize (t2 * b2 / 2 ^ w + 1) * (2 * k) / (2 * k + 1) + 1 = u2 at *
      have := ih _ _ _ _ _ h hz2 (by omega) (by omega)
      omega
theorem angF_bd {n d w A B : Nat} (hn0 : 0 < n) (hnd : n ≤ d) (hw : w ≤ 900) (hw0 : 11 ≤ w) (h : angF n d w = some (A, B)) : (lim A).length ≤ 40 ∧ (lim B).length ≤ 40 := by
  unfold angF at h
  rw [pin_eq, pin_eq] at h
  have hP : 0 < 2 ^ w := Nat.pow_pos (by omega)
  have h1 := Nat.mul_le_mul hnd hnd
  have h2 : n * d ≤ d * d := Nat.mul_le_mul_right _ hnd
  have h3 : 0 < n * n := Nat.mul_pos hn0 hn0
  have hb1 : n * n * 2 ^ w / (n * n + d * d) < 2 ^ w := by
    rw [Nat.div_lt_iff_lt_mul (by omega), Nat.mul_comm (2 ^ w)]
    exact Nat.mul_lt_mul_of_pos_right (by omega) hP
  have ht1 : n * d * 2 ^ w / (n * n + d * d) ≤ 2 ^ w := (Nat.div_le_iff_le_mul (by omega)).2 (by have := Nat.mul_le_mul_right (2 ^ w) (show n * d ≤ n * n + d * d by omega); rw [Nat.mul_comm (2 ^ w)]; omega)
  have hb := angGo_bd (T := 2 ^ w + 2001) (Nat.le_succ _) (by omega) _ _ _ _ _ _ h (by omega) (by omega) (by omega)
  have hbig : 2 ^ w * 4096 = 2 ^ (w + 12) := by rw [Nat.pow_add]
  have h11 : 2 ^ 11 ≤ 2 ^ w := Nat.pow_le_pow_right (by omega) hw0
  exact ⟨lim_len_p2 (w := w + 12) (by omega) (by omega), lim_len_p2 (w := w + 12) (by omega) (by omega)⟩
theorem arcs_pi {w A B : Nat} (hw : w ≤ 900) (hw0 : 11 ≤ w) (h : piF w = some (A, B)) : Go.Ev.Fn CX 190 [.int .i64 (w : Int)] (spanV A B) ∧ (lim A).length ≤ 100 ∧ (lim B).length ≤ 100 := by
  unfold piF at h
  split at h
  · rename_i a1 a2 b1 b2 h1 h2
    obtain ⟨rfl, rfl⟩ : a1 * 16 - (b2 * 4 + 1) = A ∧ a2 * 16 + 1 - b1 * 4 + 1 = B := by simpa using h
    clear h
    have an1 := arcs_angle (n := 1) (d := 5) (by omega) (by omega) (by omega) hw (by omega) h1
    have an2 := arcs_angle (n := 1) (d := 239) (by omega) (by omega) (by omega) hw (by omega) h2
    obtain ⟨g1, g2⟩ := angF_bd (by omega) (by omega) (by omega) hw0 h1
    obtain ⟨g3, g4⟩ := angF_bd (by omega) (by omega) (by omega) hw0 h2
    have o := fix_One
    have q5 := nat_Of 5 (by omega)
    have q239 := nat_Of 239 (by omega)
    have q16 := nat_Of 16 (by omega)
    have q4 := nat_Of 4 (by omega)
    have l16 : (lim 16).length ≤ 1 := lim_len_one (by decide)
    have l4 : (lim 4).length ≤ 1 := lim_len_one (by decide)
    have l1 := lim_len1
    have t1 := fix_Times (a := a1) (b := a2) (n := 16) (d := 1) (by omega) (by omega) (by omega) (by omega) (by omega)
    have t2 := fix_Times (a := b1) (b := b2) (n := 4) (d := 1) (by omega) (by omega) (by omega) (by omega) (by omega)
    rw [Nat.div_one, Nat.div_one] at t1 t2
    have e1 := lim_len_mul (a := a1) (b := 16)
    have e2 := lim_len_mul (a := a2) (b := 16)
    have e3 := lim_len_mul (a := b1) (b := 4)
    have e4 := lim_len_mul (a := b2) (b := 4)
    have e5 := lim_len_add (a := a2 * 16) (b := 1) (L := 50) (by omega) (by omega)
    have e6 := lim_len_add (a := b2 * 4) (b := 1) (L := 50) (by omega) (by omega)
    have sb := fix_Sub (a := a1 * 16) (b := a2 * 16 + 1) (c := b1 * 4) (d := b2 * 4 + 1) (by omega) (by omega) (by omega) (by omega)
    have e7 := lim_len_mono (Nat.sub_le (a1 * 16) (b2 * 4 + 1))
    have e8 := lim_len_mono (Nat.sub_le (a2 * 16 + 1) (b1 * 4))
    have e9 := lim_len_add (a := a2 * 16 + 1 - b1 * 4) (b := 1) (L := 60) (by omega) (by omega)
    refine ⟨?_, by omega, by omega⟩
    generalize a1 * 16 - (b2 * 4 + 1) = x1 at *
    generalize a2 * 16 + 1 - b1 * 4 + 1 = x2 at *
    generalize a2 * 16 + 1 = x3 at *
    generalize b2 * 4 + 1 = x4 at *
    generalize a1 * 16 = x5 at *
    generalize b1 * 4 = x6 at *
    refine Go.Ev.Fn.intro (fn := Tryz.f190) (body := (Tryz.f190).body.get!) (by kernel_rfl) (by kernel_rfl) (by kernel_rfl) (fun _ => rfl) (Nat.le_of_ble_eq_true (by kernel_rfl)) ?_; unfold Tryz.f190; simp only [Option.get!_some]
    repeat (first | (simp only [go_sem, Nat.reduceEqDiff, Nat.reduceAdd, Nat.reduceSub, Nat.reduceMul, Nat.reduceLeDiff, Nat.reduceLT, reduceIte, reduceCtorEq, Nat.succ_ne_zero, elemsC, Int.reduceToNat, Nat.reducePow]) | (simp (disch := (first | omega | (simp only [AL, List.length_map]; omega))) only [AR, AL, ifT, ifF, take_all, List.length_cons, List.length_nil, Int.reduceToNat, Int.reducePow, Nat.reducePow]) | (refine wk_intro (by kernel_rfl) ?_) | (refine vp_draw (id := 2) (l := [14, 15, 18, 19]) (by kernel_rfl) ?_) | (refine vf_of (by first | exact o | exact q5 | exact an1 | exact q239 | exact an2 | exact q16 | exact t1 | exact q4 | exact t2 | exact sb) ?_))
  · cases h
theorem allFrom_at {f : Nat → Bool} : ∀ {n k : Nat}, allFrom f n k = true → ∀ i, k ≤ i → i < k + n → f i = true := by
  intro n
  induction n with
  | zero => intro k _ i h1 h2; omega
  | succ n ih =>
    intro k h i h1 h2
    rw [allFrom, Bool.and_eq_true] at h
    rcases Nat.eq_or_lt_of_le h1 with h3 | h3
    · rw [← h3]; exact h.1
    · exact ih h.2 i h3 (by omega)
/-- Pi, to so many digits: the constant's square lies in it. -/
theorem arcs_Pi {p : Nat} (h1 : 8 ≤ p) (h2 : p < 225) : ∃ a : Nat, Go.Ev.Fn CX 149 [.int .i64 (p : Int)] (ballR (mkRat (a : Int) (2 ^ p)) (mkRat ((a + 1 : Nat) : Int) (2 ^ p))) ∧ a * 2 ^ (800 - p) ≤ rootPi * rootPi ∧ rootPi * rootPi ≤ (a + 1) * 2 ^ (800 - p) := by
  have h := allFrom_at pi_ok p h1 (by omega)
  unfold piOk at h
  split at h
  · rename_i lo hi hpi
    rw [pin_eq, Bool.and_eq_true, Bool.and_eq_true] at h
    obtain ⟨k1, k2, k3⟩ := h
    have k1 := Nat.eq_of_beq_eq_true k1
    have k2 := Nat.le_of_ble_eq_true k2
    have k3 := Nat.le_of_ble_eq_true k3
    obtain ⟨f, g1, g2⟩ := arcs_pi (by omega) (by omega) hpi
    have c := fix_Certain1 (p := p) (sp := 64) f (by omega) (by omega) (by omega) (by omega) (by omega) k1
    refine ⟨lo / 2 ^ 64, ?_, k2, k3⟩
    have hh := arcs_held (p : Int)
    rw [if_neg (by omega), if_neg (by omega)] at hh
    generalize mkRat ((lo / 2 ^ 64 : Nat) : Int) (2 ^ p) = q1 at *
    generalize mkRat ((lo / 2 ^ 64 + 1 : Nat) : Int) (2 ^ p) = q2 at *
    clear k2 k3 f hpi
    refine Go.Ev.Fn.intro (fn := Tryz.f149) (body := (Tryz.f149).body.get!) (by kernel_rfl) (by kernel_rfl) (by kernel_rfl) (fun _ => rfl) (Nat.le_of_ble_eq_true (by kernel_rfl)) ?_; unfold Tryz.f149; simp only [Option.get!_some]
    repeat (first | (simp only [go_sem, Nat.reduceEqDiff, Nat.reduceAdd, Nat.reduceSub, Nat.reduceMul, Nat.reduceLeDiff, Nat.reduceLT, reduceIte, reduceCtorEq, Nat.succ_ne_zero, elemsC, Int.reduceToNat, Nat.reducePow]) | (simp (disch := (first | omega | (simp only [AL, List.length_map]; omega))) only [AR, AL, ifT, ifF, take_all, List.length_cons, List.length_nil, Int.reduceToNat, Int.reducePow, Nat.reducePow]) | (refine wk_intro (by kernel_rfl) ?_) | (refine vf_of (by first | exact hh | exact c) ?_))
  · cases h
end Go.Proofs.YtemnjalaincijaaGreat

/- fix.Certain in as many rounds as it takes, in the evaluator. -/
namespace Go.Proofs.YtemnjalaincijaaGreat
set_option linter.unusedSimpArgs false
set_option linter.unusedVariables false
set_option maxRecDepth 8000
open Go.Ev
set_option linter.unusedVariables false
theorem least {P : Nat → Prop} {k : Nat} (h : P k) : ∃ j, P j ∧ j ≤ k ∧ ∀ i, i < j → ¬ P i := by
  induction k using Nat.strongRecOn with
  | _ k ih =>
    by_cases g : ∃ i, i < k ∧ P i
    · obtain ⟨i, hi, hp⟩ := g
      obtain ⟨j, h1, h2, h3⟩ := ih i hi hp
      exact ⟨j, h1, by omega, h3⟩
    · exact ⟨k, h, Nat.le_refl k, fun i hi hp => g ⟨i, hi, hp⟩⟩
/-- Doubled often enough. -/
theorem doubles {w0 M : Nat} (h0 : 0 < w0) (h : w0 ≤ M) : ∃ k, M ≤ w0 * 2 ^ k ∧ w0 * 2 ^ k < 2 * M := by
  have top : M ≤ w0 * 2 ^ M := Nat.le_trans (Nat.le_of_lt Nat.lt_two_pow_self) (Nat.le_mul_of_pos_left _ h0)
  obtain ⟨k, h1, -, h3⟩ := least (P := fun k => M ≤ w0 * 2 ^ k) top
  refine ⟨k, h1, ?_⟩
  cases k with
  | zero => rw [Nat.pow_zero, Nat.mul_one]; omega
  | succ k =>
    have := h3 k (Nat.lt_succ_self k)
    rw [Nat.pow_succ, ← Nat.mul_assoc]
    omega
section
variable {p sp M : Nat} {f : FuncId} {caps : List SV} {lo hi : Nat → Nat}
theorem certain_at (h0 : 0 < p + sp) (hM : p + sp ≤ M) (hc : ∀ w, M ≤ w → w < 2 * M → lo w / 2 ^ (w - p) = (hi w - 1) / 2 ^ (w - p)) :
    ∃ k, lo ((p + sp) * 2 ^ k) / 2 ^ ((p + sp) * 2 ^ k - p) = (hi ((p + sp) * 2 ^ k) - 1) / 2 ^ ((p + sp) * 2 ^ k - p) ∧ (p + sp) * 2 ^ k < 2 * M ∧ ∀ i, i < k → lo ((p + sp) * 2 ^ i) / 2 ^ ((p + sp) * 2 ^ i - p) ≠ (hi ((p + sp) * 2 ^ i) - 1) / 2 ^ ((p + sp) * 2 ^ i - p) := by
  obtain ⟨k0, a1, a2⟩ := doubles h0 hM
  obtain ⟨k, b1, b2, b3⟩ := least (P := fun k => lo ((p + sp) * 2 ^ k) / 2 ^ ((p + sp) * 2 ^ k - p) = (hi ((p + sp) * 2 ^ k) - 1) / 2 ^ ((p + sp) * 2 ^ k - p)) (hc _ a1 a2)
  refine ⟨k, b1, Nat.lt_of_le_of_lt (Nat.mul_le_mul_left _ (Nat.pow_le_pow_right (by omega) b2)) a2, b3⟩
set_option maxHeartbeats 1000000 in
theorem fix_CertainL (hsp : 0 < sp) (hM : p + sp ≤ M) (hM2 : M ≤ 200000000) (hp : p ≤ 10000) (hs : sp ≤ 10000)
    (hf : ∀ w : Nat, p + sp ≤ w → w < 2 * M → Go.Ev.Fn CX f (.int .i64 (w : Int) :: caps) (spanV (lo w) (hi w)))
    (hl : ∀ w : Nat, p + sp ≤ w → w < 2 * M → (lim (lo w)).length ≤ 50000000 ∧ (lim (hi w)).length ≤ 50000000 ∧ (lim (lo w / 2 ^ (w - p))).length ≤ 5000)
    (hc : ∀ w, M ≤ w → w < 2 * M → lo w / 2 ^ (w - p) = (hi w - 1) / 2 ^ (w - p)) :
    ∃ w, p + sp ≤ w ∧ w < 2 * M ∧ lo w / 2 ^ (w - p) = (hi w - 1) / 2 ^ (w - p) ∧
      Go.Ev.Fn CX 117 [.int .i64 (p : Int), .int .i64 (sp : Int), .fn f caps] (ballR (mkRat ((lo w / 2 ^ (w - p) : Nat) : Int) (2 ^ p)) (mkRat ((lo w / 2 ^ (w - p) + 1 : Nat) : Int) (2 ^ p))) := by
  obtain ⟨k, c1, c2, c3⟩ := certain_at (by omega) hM hc
  obtain ⟨W, hW⟩ : ∃ W, W = (p + sp) * 2 ^ k := ⟨_, rfl⟩
  have pk : ∀ i, p + sp ≤ (p + sp) * 2 ^ i := fun i => Nat.le_mul_of_pos_right _ (Nat.pow_pos (by omega))
  have mk : ∀ i, i ≤ k → (p + sp) * 2 ^ i ≤ W := fun i hi => by rw [hW]; exact Nat.mul_le_mul_left _ (Nat.pow_le_pow_right (by omega) hi)
  rw [← hW] at c1 c2
  refine ⟨W, by rw [hW]; exact pk k, c2, c1, ?_⟩
  obtain ⟨la, lb, lm⟩ := hl W (by rw [hW]; exact pk k) c2
  have hfW := hf W (by rw [hW]; exact pk k) c2
  have hpW : p < W := by have := pk k; omega
  have fl := fix_Floor (a := lo W) (b := hi W) (w := W) (p := p) (by omega) (by omega) hpW (by omega)
  rw [decide_eq_true c1] at fl
  have o := fix_One
  have l1 := lim_len1
  have sh := fix_shl (a := 1) (m := p) (by omega) (by omega)
  have lp := lim_len_shl (a := 1) (n := p)
  rw [Nat.one_mul] at sh lp
  have n1 := fix_Next (a := lo W / 2 ^ (W - p)) (by omega)
  have l2 := lim_len_add (a := lo W / 2 ^ (W - p)) (b := 1) (L := 5000) (by omega) (by omega)
  have r1 := rat_OfL (s := false) (n := lo W / 2 ^ (W - p)) (d := 2 ^ p) (by omega) (by omega)
  have r2 := rat_OfL (s := false) (n := lo W / 2 ^ (W - p) + 1) (d := 2 ^ p) (by omega) (by omega)
  rw [show sgn false (lo W / 2 ^ (W - p)) = ((lo W / 2 ^ (W - p) : Nat) : Int) from rfl] at r1
  rw [show sgn false (lo W / 2 ^ (W - p) + 1) = ((lo W / 2 ^ (W - p) + 1 : Nat) : Int) from rfl] at r2
  generalize mkRat ((lo W / 2 ^ (W - p) : Nat) : Int) (2 ^ p) = q1 at *
  generalize mkRat ((lo W / 2 ^ (W - p) + 1 : Nat) : Int) (2 ^ p) = q2 at *
  generalize lo W / 2 ^ (W - p) + 1 = a' at *
  generalize ha : lo W / 2 ^ (W - p) = a at *
  generalize 2 ^ p = P at *
  -- one round that is not the last
  have rd : ∀ i, i < k → ∃ x y : Nat, ∃ m : Nat, Go.Ev.Fn CX f (.int .i64 (((p + sp) * 2 ^ i : Nat) : Int) :: caps) (spanV x y) ∧ Go.Ev.Fn CX 176 [spanV x y, .int .i64 (((p + sp) * 2 ^ i : Nat) : Int), .int .i64 (p : Int)] (.tup [natV (lim m), .bool false]) := by
    intro i hi'
    have h1 := pk i
    have h2 := mk i (by omega)
    obtain ⟨xa, xb, -⟩ := hl ((p + sp) * 2 ^ i) h1 (by omega)
    have g := fix_Floor (a := lo ((p + sp) * 2 ^ i)) (b := hi ((p + sp) * 2 ^ i)) (w := (p + sp) * 2 ^ i) (p := p) (by omega) (by omega) (by omega) (by omega)
    rw [decide_eq_false (c3 i hi')] at g
    exact ⟨_, _, _, hf _ h1 (by omega), g⟩
  have dbl : ∀ i : Nat, i < k → (p + sp) * 2 ^ i * 2 = (p + sp) * 2 ^ (i + 1) := fun i _ => by rw [Nat.pow_succ, Nat.mul_assoc]
  clear hc hl hf c3 c1 la lb lm l2 lp l1
  refine Go.Ev.Fn.intro (fn := Tryz.f117) (body := (Tryz.f117).body.get!) (by kernel_rfl) (by kernel_rfl) (by kernel_rfl) (fun _ => rfl) (Nat.le_of_ble_eq_true (by kernel_rfl)) ?_; unfold Tryz.f117; simp only [Option.get!_some]
  repeat (first | (simp only [go_sem, Nat.reduceEqDiff, Nat.reduceAdd, Nat.reduceSub, Nat.reduceMul, Nat.reduceLeDiff, Nat.reduceLT, reduceIte, reduceCtorEq, Nat.succ_ne_zero, elemsC, Int.reduceToNat, Nat.reducePow]) | (simp (disch := (first | omega | (simp only [AL, List.length_map]; omega))) only [AR, AL, ifT, ifF, take_all, List.length_cons, List.length_nil, Int.reduceToNat, Int.reducePow, Nat.reducePow]) | (refine wk_intro (by kernel_rfl) ?_))
  refine vp_loop_inv (fun s => s.tmp 0 = .sv (.int .i64 (p : Int)) ∧ s.tmp 2 = .sv (.fn f caps) ∧ s.tmp 6 = .ptr 6 0 0 ∧ s.obj 6 0 = some [.bool false, .sl 0 [], .sl 0 [], .bool false, .sl 0 [], .sl 0 []] ∧ ∃ i : Nat, i ≤ k ∧ s.tmp 7 = .sv (.int .i64 (((p + sp) * 2 ^ i : Nat) : Int)))
    (fun s => match s.tmp 7 with | .sv (.int _ j) => 400000000 - j.toNat | _ => 0) ⟨rfl, rfl, rfl, rfl, 0, by omega, by rw [Nat.pow_zero, Nat.mul_one]; rfl⟩ ?_
  rintro s ⟨i0, i2, i6, o6, i, hi', i7⟩
  by_cases e : i = k
  · subst e
    rw [← hW] at i7
    clear rd dbl
    repeat (first | (simp only [go_sem, Nat.reduceEqDiff, Nat.reduceAdd, Nat.reduceSub, Nat.reduceMul, Nat.reduceLeDiff, Nat.reduceLT, reduceIte, reduceCtorEq, Nat.succ_ne_zero, elemsC, Int.reduceToNat, Nat.reducePow, i0, i2, i6, o6, i7]) | (simp (disch := (first | omega | (simp only [AL, List.length_map]; omega))) only [AR, AL, ifT, ifF, take_all, List.length_cons, List.length_nil, Int.reduceToNat, Int.reducePow, Nat.reducePow, i0, i2, i6, o6, i7]) | (refine wk_intro (by kernel_rfl) ?_) | (refine vf_of (by first | exact hfW | exact fl | exact o | exact sh | exact r1 | exact n1 | exact r2) ?_))
  · obtain ⟨x, y, m, g1, g2⟩ := rd i (by omega)
    have h1 := mk (i + 1) (by omega)
    have h3 := pk i
    have h2 := dbl i (by omega)
    have e2 : (((p + sp) * 2 ^ (i + 1) : Nat) : Int) = (((p + sp) * 2 ^ i : Nat) : Int) * 2 := by rw [← h2]; exact Int.natCast_mul _ _
    clear rd dbl hfW fl
    generalize hv : (p + sp) * 2 ^ (i + 1) = v at *
    generalize (p + sp) * 2 ^ i = u at *
    repeat (first | (simp only [go_sem, Nat.reduceEqDiff, Nat.reduceAdd, Nat.reduceSub, Nat.reduceMul, Nat.reduceLeDiff, Nat.reduceLT, reduceIte, reduceCtorEq, Nat.succ_ne_zero, elemsC, Int.reduceToNat, Nat.reducePow, i0, i2, i6, o6, i7]) | (simp (disch := (first | omega | (simp only [AL, List.length_map]; omega))) only [AR, AL, ifT, ifF, take_all, List.length_cons, List.length_nil, Int.reduceToNat, Int.reducePow, Nat.reducePow, i0, i2, i6, o6, i7]) | (refine wk_intro (by kernel_rfl) ?_) | (refine vf_of (by first | exact g1 | exact g2) ?_))
    exact ⟨⟨i + 1, by omega, by rw [hv, e2]⟩, by omega⟩
end
end Go.Proofs.YtemnjalaincijaaGreat

/- exps: row, near, Exp, in the evaluator. -/
namespace Go.Proofs.YtemnjalaincijaaGreat
set_option linter.unusedSimpArgs false
set_option linter.unusedVariables false
set_option maxRecDepth 8000
open Go.Ev
set_option linter.unusedVariables false
theorem lim_len_pw {n w : Nat} (h : n < 2 ^ w) : (lim n).length ≤ w / 32 + 1 := by
  refine lim_len_lt (Nat.lt_of_lt_of_le h ?_)
  rw [show (4294967296 : Nat) = 2 ^ 32 from rfl, ← Nat.pow_mul]
  exact Nat.pow_le_pow_right (by omega) (by omega)
set_option maxHeartbeats 1000000 in
theorem exps_row {w Y A B : Nat} (hw : 64 ≤ w) (hw2 : w ≤ 400000000) (hY : Y + 1 ≤ 2 ^ (w - 7)) (h : eRow w Y (w / 7 + 3) 1 (2 ^ w) (2 ^ w + 1) (2 ^ w) (2 ^ w + 1) = some (A, B)) :
    Go.Ev.Fn CX 178 [spanV Y (Y + 1), .int .i64 (w : Int)] (spanV A B) := by
  have un := fix_Unit (w := w) (by omega)
  have lw : w < 2 ^ w := Nat.lt_two_pow_self
  have e1 : 2 ^ (w + 1) = 2 ^ w * 2 := Nat.pow_succ _ _
  have e2 : 2 ^ (w + 2) = 2 ^ w * 4 := Nat.pow_add _ _ _
  have hYw : 2 ^ (w - 7) ≤ 2 ^ w := Nat.pow_le_pow_right (by omega) (by omega)
  have lY := lim_len_pw (n := Y) (w := w + 2) (by omega)
  have lY1 := lim_len_pw (n := Y + 1) (w := w + 2) (by omega)
  have i0 := eInv_0 w
  have lens := fun (n t1 t2 a1 a2 : Nat) (hn : n ≤ w / 7 + 4) (h : eInv w n t1 t2 a1 a2) => (show (lim t1).length ≤ 13000000 ∧ (lim t2).length ≤ 13000000 ∧ (lim a1).length ≤ 13000000 ∧ (lim a2).length ≤ 13000000 from by
    obtain ⟨q1, q2, q3, q4, q5, q6, q7, q8⟩ := h
    have a := lim_len_pw (n := t1) (w := w + 2) (by omega)
    have b := lim_len_pw (n := t2) (w := w + 2) (by omega)
    have c := lim_len_pw (n := a1) (w := w + 2) (by omega)
    have d := lim_len_pw (n := a2) (w := w + 2) (by omega)
    exact ⟨by omega, by omega, by omega, by omega⟩)
  have step := fun (n t1 t2 a1 a2 : Nat) (h : eInv w n t1 t2 a1 a2) => eInv_step (Y := Y) hw hY h
  generalize hP : 2 ^ w = P at un h i0
  clear e1 e2 lw
  refine Go.Ev.Fn.intro (fn := Tryz.f178) (body := (Tryz.f178).body.get!) (by kernel_rfl) (by kernel_rfl) (by kernel_rfl) (fun _ => rfl) (Nat.le_of_ble_eq_true (by kernel_rfl)) ?_; unfold Tryz.f178; simp only [Option.get!_some]
  repeat (first | (simp only [go_sem, Nat.reduceEqDiff, Nat.reduceAdd, Nat.reduceSub, Nat.reduceMul, Nat.reduceLeDiff, Nat.reduceLT, reduceIte, reduceCtorEq, Nat.succ_ne_zero, elemsC, Int.reduceToNat, Nat.reducePow]) | (simp (disch := (first | omega | (simp only [AL, List.length_map]; omega))) only [AR, AL, ifT, ifF, take_all, List.length_cons, List.length_nil, Int.reduceToNat, Int.reducePow, Nat.reducePow]) | (refine wk_intro (by kernel_rfl) ?_) | (refine vf_of (by first | exact un) ?_))
  refine vp_loop_inv (fun s => s.tmp 1 = .sv (.int .i64 (w : Int)) ∧ s.tmp 2 = .ptr 2 0 0 ∧ s.obj 2 0 = some [natV (lim Y), natV (lim (Y + 1))] ∧ s.tmp 4 = .ptr 4 0 0 ∧ s.obj 4 0 = some [.sl 0 [], .sl 0 []] ∧ s.tmp 5 = .ptr 5 0 0 ∧ s.tmp 6 = .ptr 6 0 0 ∧
      ∃ f n t1 t2 a1 a2 : Nat, s.tmp 7 = .sv (.int .u64 (n : Int)) ∧ f + n = w / 7 + 4 ∧ eRow w Y f n t1 t2 a1 a2 = some (A, B) ∧ s.obj 6 0 = some [natV (lim t1), natV (lim t2)] ∧ s.obj 5 0 = some [natV (lim a1), natV (lim a2)] ∧ eInv w n t1 t2 a1 a2)
    (fun s => match s.tmp 7 with | .sv (.int _ i) => w / 7 + 5 - i.toNat | _ => 0) ⟨rfl, rfl, rfl, rfl, rfl, rfl, rfl, w / 7 + 3, 1, P, P + 1, P, P + 1, rfl, by omega, h, rfl, rfl, i0⟩ ?_
  rintro s ⟨i1, i2, o2, i4, o4, i5, i6, f, n, t1, t2, a1, a2, i7, hfn, hgo, o6, o5, hok⟩
  obtain ⟨lt1, lt2, la1, la2⟩ := lens n t1 t2 a1 a2 (by omega) hok
  have hn1 := hok.1
  have st := step n t1 t2 a1 a2 hok
  have sm := fix_Small (a := t1) (b := t2) (by omega) (k := 1) (by omega)
  cases f with
  | zero => simp only [eRow] at hgo; cases hgo
  | succ f =>
    rw [eRow] at hgo
    by_cases hs : t2 < 2
    · rw [if_pos hs] at hgo
      simp only [Option.some.injEq, Prod.mk.injEq] at hgo
      obtain ⟨rfl, rfl⟩ := hgo
      rw [decide_eq_true (show t2 < 2 ^ 1 from hs)] at sm
      have wd := fix_Wider (a := a1) (b := a2) (n := 1) (by omega) (by omega) (by omega)
      clear step lens st h un
      repeat (first | (simp only [go_sem, Nat.reduceEqDiff, Nat.reduceAdd, Nat.reduceSub, Nat.reduceMul, Nat.reduceLeDiff, Nat.reduceLT, reduceIte, reduceCtorEq, Nat.succ_ne_zero, elemsC, Int.reduceToNat, Nat.reducePow, i1, i2, o2, i4, o4, i5, i6, i7, o5, o6, Bool.not_true]) | (simp (disch := (first | omega | (simp only [AL, List.length_map]; omega))) only [AR, AL, ifT, ifF, take_all, List.length_cons, List.length_nil, Int.reduceToNat, Int.reducePow, Nat.reducePow, i1, i2, o2, i4, o4, i5, i6, i7, o5, o6, Bool.not_true]) | (refine wk_intro (by kernel_rfl) ?_) | (refine vf_of (by first | exact sm | exact wd) ?_))
    · rw [if_neg hs] at hgo
      rw [decide_eq_false (show ¬ t2 < 2 ^ 1 from hs)] at sm
      obtain ⟨lu1, lu2, lb1, lb2⟩ := lens (n + 1) _ _ _ _ (by omega) st
      have mu := fix_Mul (a := t1) (b := t2) (c := Y) (d := Y + 1) (w := w) (by omega) (by omega) (by omega) (by omega) (by omega) (by omega)
      have o1 := fix_One
      have q1 := nat_Of n (by omega)
      have l1 := lim_len1
      have lq : (lim n).length ≤ 2 := lim_len_lt (by omega)
      have z1 := lim_len_mul (a := t1) (b := Y)
      have z2 := lim_len_mul (a := t2) (b := Y + 1)
      have z3 := lim_len_mono (Nat.div_le_self (t1 * Y) (2 ^ w))
      have z4 := lim_len_add (a := t2 * (Y + 1) / 2 ^ w) (b := 1) (L := 26000000) (Nat.le_trans (lim_len_mono (Nat.div_le_self (t2 * (Y + 1)) (2 ^ w))) (by omega)) (by omega)
      have ti := fix_Times (a := t1 * Y / 2 ^ w) (b := t2 * (Y + 1) / 2 ^ w + 1) (n := 1) (d := n) (by omega) (by omega) (by omega) (by omega) (by omega)
      generalize t1 * Y / 2 ^ w * 1 / n = u1 at *
      generalize (t2 * (Y + 1) / 2 ^ w + 1) * 1 / n + 1 = u2 at *
      generalize t1 * Y / 2 ^ w = v1 at *
      generalize t2 * (Y + 1) / 2 ^ w + 1 = v2 at *
      have ad := fix_Add (a := a1) (b := a2) (c := u1) (d := u2) (by omega) (by omega) (by omega) (by omega)
      clear step lens h un
      repeat (first | (simp only [go_sem, Nat.reduceEqDiff, Nat.reduceAdd, Nat.reduceSub, Nat.reduceMul, Nat.reduceLeDiff, Nat.reduceLT, reduceIte, reduceCtorEq, Nat.succ_ne_zero, elemsC, Int.reduceToNat, Nat.reducePow, i1, i2, o2, i4, o4, i5, i6, i7, o5, o6, Bool.not_false]) | (simp (disch := (first | omega | (simp only [AL, List.length_map]; omega))) only [AR, AL, ifT, ifF, take_all, List.length_cons, List.length_nil, Int.reduceToNat, Int.reducePow, Nat.reducePow, i1, i2, o2, i4, o4, i5, i6, i7, o5, o6, Bool.not_false]) | (refine wk_intro (by kernel_rfl) ?_) | (refine vf_of (by first | exact sm | exact mu | exact o1 | exact q1 | exact ti | exact ad) ?_))
      exact ⟨⟨f, n + 1, u1, u2, a1 + u1, a2 + u2, rfl, by omega, hgo, rfl, rfl, st⟩, by omega⟩
/-- What near reckons. -/
def nearS (n d w : Nat) (R : Nat × Nat) : Prop := ∃ A B : Nat, eRow w (n * 2 ^ w / (d * 2 ^ 14)) (w / 7 + 3) 1 (2 ^ w) (2 ^ w + 1) (2 ^ w) (2 ^ w + 1) = some (A, B) ∧ A ≤ B ∧ 2 ^ w ≤ A ∧ B < 2 ^ (w + 2) ∧ R = sqs w 14 A B
def nearR (neg : Bool) (w : Nat) (R : Nat × Nat) : Nat × Nat := if neg then (2 ^ (2 * w) / R.2, 2 ^ (2 * w) / R.1 + 1) else R
set_option maxHeartbeats 1000000 in
theorem exps_near {s : Bool} {n d w : Nat} {R : Nat × Nat} (hd : 0 < d) (h : n ≤ 64 * d) (hw : 160 ≤ w) (hw2 : w ≤ 200000000) (ln : (lim n).length ≤ 1000) (ld : (lim d).length ≤ 1000) (hR : nearS n d w R) :
    Go.Ev.Fn CX 119 [ratV s (lim n) (lim d), .int .i64 (w : Int)] (spanV (nearR s w R).1 (nearR s w R).2) := by
  obtain ⟨A, B, hr, hAB, hA, hB, rfl⟩ := hR
  have sh := fix_shl (a := d) (m := 14) (by omega) (by omega)
  have ls := lim_len_shl (a := d) (n := 14)
  have dp : 0 < d * 2 ^ 14 := by omega
  have of := fix_Of (n := n) (d := d * 2 ^ 14) (w := w) (by omega) (by omega) (by omega) (by omega)
  have hY : n * 2 ^ w / (d * 2 ^ 14) + 1 ≤ 2 ^ (w - 7) := by
    have e8 : 2 ^ w = 2 ^ (w - 8) * 256 := by rw [show (256 : Nat) = 2 ^ 8 from rfl, ← Nat.pow_add]; congr 1; omega
    have e7 : 2 ^ (w - 7) = 2 ^ (w - 8) * 2 := by rw [← Nat.pow_succ]; congr 1; omega
    have p8 : 0 < 2 ^ (w - 8) := Nat.pow_pos (by omega)
    have Yle : n * 2 ^ w / (d * 2 ^ 14) ≤ 2 ^ (w - 8) := by
      refine (Nat.div_le_iff_le_mul dp).2 ?_
      have m := Nat.mul_le_mul_right (2 ^ w) h
      have k : 64 * d * 2 ^ w = 2 ^ (w - 8) * (d * 2 ^ 14) := by
        rw [e8]; generalize 2 ^ (w - 8) = z; rw [show (2 : Nat) ^ 14 = 16384 from rfl]; grind
      omega
    omega
  have rw1 := exps_row (w := w) (by omega) (by omega) hY hr
  generalize hY' : n * 2 ^ w / (d * 2 ^ 14) = Y at *
  have e14 : d * 2 ^ 14 = d * 16384 := rfl
  generalize d * 2 ^ 14 = d' at *
  clear hr hY ln ld ls
  obtain ⟨c14, hc14⟩ : ∃ c : Nat, c = 32768 := ⟨_, rfl⟩
  have fin := sqs_ok (w := w) 14 A B 2 (B - A + 1) hA hAB hB (by omega) (by omega)
  obtain ⟨R1, R2, hRR⟩ : ∃ R1 R2 : Nat, sqs w 14 A B = (R1, R2) := ⟨_, _, rfl⟩
  rw [hRR] at fin ⊢
  obtain ⟨f1, f2, f3, -⟩ := fin
  rw [show 2 * 2 ^ 14 = c14 by omega] at f3
  simp only at f1 f2 f3
  have Pw : 0 < 2 ^ w := Nat.pow_pos (by omega)
  have lR1 := lim_len_pw (n := R1) (w := w + c14) (by omega)
  have lR2 := lim_len_pw (n := R2) (w := w + c14) (by omega)
  have inv := fix_Inverse (a := R1) (b := R2) (w := w) (by omega) (by omega) (by omega) (by omega) (by omega)
  have loop : ∀ (k lo hi c : Nat), 2 ^ w ≤ lo → lo ≤ hi → hi < 2 ^ (w + c) → c * 2 ^ k ≤ c14 → 1 ≤ k → (Go.Ev.Fn CX 60 [spanV lo hi, spanV lo hi, .int .i64 (w : Int)] (spanV (lo * lo / 2 ^ w) (hi * hi / 2 ^ w + 1)) ∧ 2 ^ w ≤ lo * lo / 2 ^ w ∧ lo * lo / 2 ^ w ≤ hi * hi / 2 ^ w + 1 ∧ hi * hi / 2 ^ w + 1 < 2 ^ (w + (c + c)) ∧ (c + c) * 2 ^ (k - 1) ≤ c14) := by
    intro k lo hi c h1 h2 h3 h4 h5
    obtain ⟨s1, s2, s3, -⟩ := sq_step h1 h2 h3 (G := hi - lo + 1) (by omega) (by omega)
    have hc : c ≤ c14 := Nat.le_trans (Nat.le_mul_of_pos_right _ (Nat.pow_pos (by omega))) h4
    have l1 := lim_len_pw (n := lo) (w := w + c) (by omega)
    have l2 := lim_len_pw (n := hi) (w := w + c) h3
    have mu := fix_Mul (a := lo) (b := hi) (c := lo) (d := hi) (w := w) (by omega) (by omega) (by omega) (by omega) (by omega) (by omega)
    refine ⟨mu, s1, s2, s3, ?_⟩
    have e : (c + c) * 2 ^ (k - 1) = c * 2 ^ k := by
      obtain ⟨j, rfl⟩ : ∃ j, k = j + 1 := ⟨k - 1, by omega⟩
      rw [Nat.add_sub_cancel, Nat.pow_succ, ← Nat.mul_two, Nat.mul_assoc, Nat.mul_comm 2]
    rw [e]; exact h4
  refine Go.Ev.Fn.intro (fn := Tryz.f119) (body := (Tryz.f119).body.get!) (by kernel_rfl) (by kernel_rfl) (by kernel_rfl) (fun _ => rfl) (Nat.le_of_ble_eq_true (by kernel_rfl)) ?_; unfold Tryz.f119; simp only [Option.get!_some]
  repeat (first | (simp only [go_sem, Nat.reduceEqDiff, Nat.reduceAdd, Nat.reduceSub, Nat.reduceMul, Nat.reduceLeDiff, Nat.reduceLT, reduceIte, reduceCtorEq, Nat.succ_ne_zero, elemsC, Int.reduceToNat, Nat.reducePow]) | (simp (disch := (first | omega | (simp only [AL, List.length_map]; omega))) only [AR, AL, ifT, ifF, take_all, List.length_cons, List.length_nil, Int.reduceToNat, Int.reducePow, Nat.reducePow]) | (refine wk_intro (by kernel_rfl) ?_) | (refine vp_draw (id := 1) (l := [10, 8, 11]) (by kernel_rfl) ?_) | (refine vf_of (by first | exact sh | exact of | exact rw1) ?_))
  refine vp_loop_inv (fun s' => s'.tmp 1 = .sv (.int .i64 (w : Int)) ∧ s'.tmp 2 = .ptr 2 0 0 ∧ s'.obj 2 0 = some [.bool s, natV (lim n), natV (lim d)] ∧ s'.tmp 4 = .ptr 4 0 0 ∧ s'.obj 4 0 = some [.sl 0 [], .sl 0 []] ∧ s'.tmp 6 = .ptr 6 0 0 ∧
      ∃ k lo hi c : Nat, s'.tmp 17 = .sv (.int .i64 ((14 - k : Nat) : Int)) ∧ k ≤ 14 ∧ s'.obj 6 0 = some [natV (lim lo), natV (lim hi)] ∧ sqs w k lo hi = (R1, R2) ∧ 2 ^ w ≤ lo ∧ lo ≤ hi ∧ hi < 2 ^ (w + c) ∧ c * 2 ^ k ≤ c14)
    (fun s' => match s'.tmp 17 with | .sv (.int _ i) => 15 - i.toNat | _ => 0) ⟨rfl, rfl, rfl, rfl, rfl, rfl, 14, A, B, 2, rfl, by omega, rfl, hRR, hA, hAB, hB, by omega⟩ ?_
  rintro s' ⟨i1, i2, o2, i4, o4, i6, k, lo, hi, c, i17, hk, o6, hsq, g1, g2, g3, g4⟩
  cases k with
  | zero =>
    have hsq' : (lo, hi) = (R1, R2) := hsq
    simp only [Prod.mk.injEq] at hsq'
    obtain ⟨rfl, rfl⟩ := hsq'
    clear loop
    cases s with
    | true =>
      show _
      unfold nearR
      rw [if_pos rfl]
      repeat (first | (simp only [go_sem, Nat.reduceEqDiff, Nat.reduceAdd, Nat.reduceSub, Nat.reduceMul, Nat.reduceLeDiff, Nat.reduceLT, reduceIte, reduceCtorEq, Nat.succ_ne_zero, elemsC, Int.reduceToNat, Nat.reducePow, i1, i2, o2, i4, o4, i6, i17, o6]) | (simp (disch := (first | omega | (simp only [AL, List.length_map]; omega))) only [AR, AL, ifT, ifF, take_all, List.length_cons, List.length_nil, Int.reduceToNat, Int.reducePow, Nat.reducePow, i1, i2, o2, i4, o4, i6, i17, o6]) | (refine wk_intro (by kernel_rfl) ?_) | (refine vp_draw (id := 1) (l := [10, 8, 11]) (by kernel_rfl) ?_) | (refine vf_of (by first | exact inv) ?_))
    | false =>
      unfold nearR
      rw [if_neg (by simp)]
      repeat (first | (simp only [go_sem, Nat.reduceEqDiff, Nat.reduceAdd, Nat.reduceSub, Nat.reduceMul, Nat.reduceLeDiff, Nat.reduceLT, reduceIte, reduceCtorEq, Nat.succ_ne_zero, elemsC, Int.reduceToNat, Nat.reducePow, i1, i2, o2, i4, o4, i6, i17, o6]) | (simp (disch := (first | omega | (simp only [AL, List.length_map]; omega))) only [AR, AL, ifT, ifF, take_all, List.length_cons, List.length_nil, Int.reduceToNat, Int.reducePow, Nat.reducePow, i1, i2, o2, i4, o4, i6, i17, o6]) | (refine wk_intro (by kernel_rfl) ?_) | (refine vp_draw (id := 1) (l := [10, 8, 11]) (by kernel_rfl) ?_))
  | succ k =>
    obtain ⟨mu, s1, s2, s3, s4⟩ := loop (k + 1) lo hi c g1 g2 g3 g4 (by omega)
    rw [Nat.add_sub_cancel] at s4
    have hsq' : sqs w k (lo * lo / 2 ^ w) (hi * hi / 2 ^ w + 1) = (R1, R2) := hsq
    clear loop hsq
    generalize lo * lo / 2 ^ w = lo' at *
    generalize hi * hi / 2 ^ w + 1 = hi' at *
    repeat (first | (simp only [go_sem, Nat.reduceEqDiff, Nat.reduceAdd, Nat.reduceSub, Nat.reduceMul, Nat.reduceLeDiff, Nat.reduceLT, reduceIte, reduceCtorEq, Nat.succ_ne_zero, elemsC, Int.reduceToNat, Nat.reducePow, i1, i2, o2, i4, o4, i6, i17, o6]) | (simp (disch := (first | omega | (simp only [AL, List.length_map]; omega))) only [AR, AL, ifT, ifF, take_all, List.length_cons, List.length_nil, Int.reduceToNat, Int.reducePow, Nat.reducePow, i1, i2, o2, i4, o4, i6, i17, o6]) | (refine wk_intro (by kernel_rfl) ?_) | (refine vp_draw (id := 1) (l := [10, 8, 11]) (by kernel_rfl) ?_) | (refine vf_of (by first | exact mu) ?_))
    exact ⟨⟨k, lo', hi', c + c, by congr 2; omega, by omega, rfl, hsq', s1, s2, s3, s4⟩, by omega⟩
end Go.Proofs.YtemnjalaincijaaGreat

/- exps.Exp: it ends, and has what it should, in the evaluator. -/
namespace Go.Proofs.YtemnjalaincijaaGreat
set_option linter.unusedSimpArgs false
set_option linter.unusedVariables false
set_option maxRecDepth 8000
open Go.Ev
set_option linter.unusedVariables false
/-- e to the power of x, by a cut row. -/
def evX (x : Rat) (L : Nat) : Rat := if x < 0 then 1 / Ex.E (-x) L else Ex.E x L
def nearF (n d w : Nat) : Nat × Nat := match eRow w (n * 2 ^ w / (d * 2 ^ 14)) (w / 7 + 3) 1 (2 ^ w) (2 ^ w + 1) (2 ^ w) (2 ^ w + 1) with
  | some (A, B) => sqs w 14 A B
  | none => (0, 0)
theorem nearF_ok {n d w g c : Nat} (hg : g = 32794) (hc : c = 32768) (hd : 0 < d) (h : n ≤ 64 * d) (hw : 160 ≤ w) :
    nearS n d w (nearF n d w) ∧ 2 ^ w ≤ (nearF n d w).1 ∧ (nearF n d w).1 < (nearF n d w).2 ∧ (nearF n d w).2 < 2 ^ (w + c) ∧ (nearF n d w).2 ≤ (nearF n d w).1 + w * 2 ^ g ∧
      ∀ x : Rat, x * (d : Rat) = (n : Rat) → ∃ s, ∀ L, s ≤ L → Enc w (nearF n d w).1 (nearF n d w).2 (Ex.E x L) := by
  obtain ⟨A, B, r1, r2, r3, r4, r5, r6, r7, r8, r9⟩ := near_ok hg hc hd h hw
  have e : nearF n d w = sqs w 14 A B := by unfold nearF; rw [r1]
  rw [e]
  have strict : ∀ (k lo hi : Nat), lo ≤ hi → (sqs w (k + 1) lo hi).1 < (sqs w (k + 1) lo hi).2 := by
    intro k
    induction k with
    | zero =>
      intro lo hi h
      show lo * lo / 2 ^ w < hi * hi / 2 ^ w + 1
      exact Nat.lt_succ_of_le (Nat.div_le_div_right (Nat.mul_le_mul h h))
    | succ k ih =>
      intro lo hi h
      exact ih _ _ (Nat.le_succ_of_le (Nat.div_le_div_right (Nat.mul_le_mul h h)))
  exact ⟨⟨A, B, r1, r2, r3, r4, rfl⟩, r5, strict 13 A B r2, r7, r8, r9⟩
theorem exps_Exp1 {s : Bool} {n d : List Nat} {w : Nat} {r1 r2 : Nat} (h : Go.Ev.Fn CX 119 [ratV s n d, .int .i64 (w : Int)] (spanV r1 r2)) :
    Go.Ev.Fn CX 118 [.int .i64 (w : Int), .mem [.bool s, natV n, natV d]] (spanV r1 r2) := by
  refine Go.Ev.Fn.intro (fn := Tryz.f118) (body := (Tryz.f118).body.get!) (by kernel_rfl) (by kernel_rfl) (by kernel_rfl) (fun _ => rfl) (Nat.le_of_ble_eq_true (by kernel_rfl)) ?_; unfold Tryz.f118; simp only [Option.get!_some]
  repeat (first | (simp only [go_sem, Nat.reduceEqDiff, Nat.reduceAdd, Nat.reduceSub, Nat.reduceMul, Nat.reduceLeDiff, Nat.reduceLT, reduceIte, reduceCtorEq, Nat.succ_ne_zero, elemsC, Int.reduceToNat, Nat.reducePow]) | (simp (disch := (first | omega | (simp only [AL, List.length_map]; omega))) only [AR, AL, ifT, ifF, take_all, List.length_cons, List.length_nil, Int.reduceToNat, Int.reducePow, Nat.reducePow]) | (refine wk_intro (by kernel_rfl) ?_) | (refine vf_of (by first | exact h) ?_))
theorem neg_numX {x : Rat} : decide (x.num < 0) = decide (x < 0) := by
  have h := Rat.num_nonneg (q := x)
  refine decide_eq_decide.2 ⟨fun g => ?_, fun g => ?_⟩
  · have : ¬ 0 ≤ x := fun k => absurd (h.2 k) (by omega)
    grind
  · rcases Int.lt_or_le x.num 0 with k | k
    · exact k
    · exact absurd (h.1 k) (by grind)
section
variable {v : SV} {x : Rat} {L P : Nat} {pI : Int}
/-- Where it ends. -/
theorem exp_end {n d : Nat} {neg : Bool} (hn0 : 0 < n) (hd : 0 < d) (h : n ≤ 64 * d) (hd2 : d ≤ 2 ^ 240) (hP : P ≤ 512) (ln : (lim n).length ≤ 1000) (ld : (lim d).length ≤ 1000) :
    ∃ m s0 : Nat, (lim m).length ≤ 5000 ∧ Go.Ev.Fn CX 117 [.int .i64 (P : Int), .int .i64 160, .fn 118 [.mem [.bool neg, natV (lim n), natV (lim d)]]] (ballR (mkRat (m : Int) (2 ^ P)) (mkRat ((m + 1 : Nat) : Int) (2 ^ P))) ∧
      ∀ x : Rat, x * (d : Rat) = (n : Rat) → ∃ s0, ∀ L, s0 ≤ L → Enc P m (m + 1) (if neg then 1 / Ex.E x L else Ex.E x L) := by
  obtain ⟨g, hg⟩ : ∃ g : Nat, g = 32794 := ⟨_, rfl⟩
  obtain ⟨c, hc⟩ : ∃ g : Nat, g = 32768 := ⟨_, rfl⟩
  have ok := fun w (hw : 160 ≤ w) => nearF_ok (n := n) (d := d) (w := w) hg hc hd h hw
  have dR : (0 : Rat) < (d : Rat) := by exact_mod_cast hd
  obtain ⟨q, hq⟩ : ∃ q : Rat, q = (n : Rat) / (d : Rat) := ⟨_, rfl⟩
  have qd : q * (d : Rat) = (n : Rat) := by rw [hq]; exact Rat.div_mul_cancel (by grind)
  have q64 : q ≤ 64 := by
    refine le_by dR ?_
    rw [qd]
    have : ((n : Nat) : Rat) ≤ ((64 * d : Nat) : Rat) := Ex.castle h
    rw [Ex.castmul] at this; exact this
  have cert : ∀ w, 71000000 ≤ w → w < 2 * 71000000 → (nearR neg w (nearF n d w)).1 / 2 ^ (w - P) = ((nearR neg w (nearF n d w)).2 - 1) / 2 ^ (w - P) := by
    intro w hw hw2
    obtain ⟨-, o1, o2, o3, o4, o5⟩ := ok w (by omega)
    obtain ⟨s, hs⟩ := o5 q qd
    have w40 : w ≤ 2 ^ 40 := by omega
    cases neg with
    | false =>
      unfold nearR
      rw [if_neg (by simp)]
      exact cert_pos hn0 hd hd2 qd q64 hP (by omega) o2 o4 hs hw w40
    | true =>
      unfold nearR
      rw [if_pos rfl]
      exact cert_neg hn0 hd hd2 qd q64 hP (by omega) o1 o2 o4 hs hw w40
  have size : ∀ w, 160 ≤ w → w < 2 * 71000000 → P ≤ w → (nearR neg w (nearF n d w)).1 < 2 ^ (w + c) ∧ (nearR neg w (nearF n d w)).2 < 2 ^ (w + c) := by
    intro w hw hw2 hPw
    obtain ⟨-, o1, o2, o3, o4, -⟩ := ok w hw
    cases neg with
    | false =>
      unfold nearR
      rw [if_neg (by simp)]
      exact ⟨by omega, o3⟩
    | true =>
      unfold nearR
      rw [if_pos rfl]
      have Pw : 0 < 2 ^ w := Nat.pow_pos (by omega)
      have e2 : 2 ^ (2 * w) = 2 ^ w * 2 ^ w := by rw [← Nat.pow_add]; congr 1; omega
      have big : 2 ^ w * 4 ≤ 2 ^ (w + c) := by
        rw [show (4 : Nat) = 2 ^ 2 from rfl, ← Nat.pow_add]
        exact Nat.pow_le_pow_right (by omega) (by omega)
      have one : ∀ z : Nat, 2 ^ w ≤ z → 2 ^ (2 * w) / z ≤ 2 ^ w := by
        intro z hz
        refine (Nat.div_le_iff_le_mul (by omega)).2 ?_
        rw [e2]
        have := Nat.mul_le_mul_left (2 ^ w) hz
        omega
      have a := one (nearF n d w).2 (by omega)
      have b := one (nearF n d w).1 o1
      constructor
      · show 2 ^ (2 * w) / (nearF n d w).2 < _
        omega
      · show 2 ^ (2 * w) / (nearF n d w).1 + 1 < _
        omega
  obtain ⟨w, w1, w2, w3, fn⟩ := fix_CertainL (p := P) (sp := 160) (M := 71000000) (f := 118) (caps := [.mem [.bool neg, natV (lim n), natV (lim d)]]) (lo := fun w => (nearR neg w (nearF n d w)).1) (hi := fun w => (nearR neg w (nearF n d w)).2) (by omega) (by omega) (by omega) (by omega) (by omega)
    (fun w hw hw2 => exps_Exp1 (exps_near hd h (by omega) (by omega) ln ld (ok w (by omega)).1))
    (fun w hw hw2 => by
      obtain ⟨z1, z2⟩ := size w (by omega) hw2 (by omega)
      have a := lim_len_pw z1
      have b := lim_len_pw z2
      have m : (nearR neg w (nearF n d w)).1 / 2 ^ (w - P) < 2 ^ (P + c) := by
        refine (Nat.div_lt_iff_lt_mul (Nat.pow_pos (by omega))).2 ?_
        rw [← Nat.pow_add, show P + c + (w - P) = w + c by omega]; exact z1
      have l := lim_len_pw m
      exact ⟨by omega, by omega, by omega⟩)
    cert
  obtain ⟨z1, -⟩ := size w (by omega) w2 (by omega)
  obtain ⟨-, o1, o2, o3, o4, o5⟩ := ok w (by omega)
  obtain ⟨m, hm⟩ : ∃ m, m = (nearR neg w (nearF n d w)).1 / 2 ^ (w - P) := ⟨_, rfl⟩
  have lm : m < 2 ^ (P + c) := by
    rw [hm]
    refine (Nat.div_lt_iff_lt_mul (Nat.pow_pos (by omega))).2 ?_
    rw [← Nat.pow_add, show P + c + (w - P) = w + c by omega]; exact z1
  have ll := lim_len_pw lm
  refine ⟨m, 0, by omega, by rw [hm]; exact fn, fun x hx => ?_⟩
  obtain ⟨s0, hs⟩ := o5 x hx
  refine ⟨s0, fun L hL => ?_⟩
  have en : Enc w (nearR neg w (nearF n d w)).1 (nearR neg w (nearF n d w)).2 (if neg then 1 / Ex.E x L else Ex.E x L) := by
    cases neg with
    | false =>
      unfold nearR
      rw [if_neg (by simp), if_neg (by simp)]
      exact hs L hL
    | true =>
      unfold nearR
      rw [if_pos rfl, if_pos rfl]
      exact (enc_inv (by have : 0 < 2 ^ w := Nat.pow_pos (by omega); omega) (hs L hL)).1
  have pos2 : 0 < (nearR neg w (nearF n d w)).2 := by
    cases neg with
    | false => unfold nearR; rw [if_neg (by simp)]; omega
    | true => unfold nearR; rw [if_pos rfl]; exact Nat.succ_pos _
  have w3' : m = ((nearR neg w (nearF n d w)).2 - 1) / 2 ^ (w - P) := by rw [hm]; exact w3
  generalize (if neg then 1 / Ex.E x L else Ex.E x L) = z at *
  generalize (nearR neg w (nearF n d w)).1 = lo at *
  generalize (nearR neg w (nearF n d w)).2 = hi at *
  have Pw := p2_pos (w - P)
  have e : p2 w = p2 P * p2 (w - P) := by
    have : w = P + (w - P) := by omega
    have e2 : 2 ^ w = 2 ^ P * 2 ^ (w - P) := by rw [← Nat.pow_add]; congr 1
    show ((2 ^ w : Nat) : Rat) = _
    rw [e2]; exact Ex.castmul _ _
  obtain ⟨b1, b2⟩ := en
  rw [e, ← Rat.mul_assoc] at b1 b2
  constructor
  · refine le_by Pw ?_
    have k : m * 2 ^ (w - P) ≤ lo := by rw [hm]; exact Nat.div_mul_le_self _ _
    have k2 := Ex.castle k
    rw [Ex.castmul] at k2
    exact Rat.le_trans k2 b1
  · refine le_by Pw ?_
    have k : hi ≤ (m + 1) * 2 ^ (w - P) := by
      have := Nat.lt_mul_div_succ (hi - 1) (show 0 < 2 ^ (w - P) from Nat.pow_pos (by omega))
      rw [← w3', Nat.mul_comm] at this
      omega
    have k2 := Ex.castle k
    rw [Ex.castmul] at k2
    exact Rat.le_trans b2 k2
theorem exps_Exp (hv : RatA v x L) (hL1 : 1 ≤ L) (hL : L ≤ 100) (hx0 : x ≠ 0) (h1 : -64 ≤ x) (h2 : x ≤ 64) (hd : x.den ≤ 2 ^ 240) (hP : P ≤ 512) (hpI : (pI ≤ 0 ∧ P = 0) ∨ pI = (P : Int)) :
    ∃ m : Nat, (lim m).length ≤ 5000 ∧ Go.Ev.Fn CX 58 [v, .int .i64 pI] (.tup [ballR (mkRat (m : Int) (2 ^ P)) (mkRat ((m + 1 : Nat) : Int) (2 ^ P)), .bool true]) ∧ ∃ s0, ∀ L, s0 ≤ L → Enc P m (m + 1) (evX x L) := by
  have zx := szR_of hv hL1
  have n1 := rat_Norm hv (by omega)
  have im := rat_Int (-64) (by omega)
  have ip := rat_Int 64 (by omega)
  have c1 := rat_Cmp (RatA_rv zx) (RatA_rv (int_szR (n := -64) (by omega))) hL1 (by omega) (by omega)
  have c2 := rat_Cmp (RatA_rv zx) (RatA_rv (int_szR (n := 64) (by omega))) hL1 (by omega) (by omega)
  have zr := rat_Zero (RatA_rv zx) hL1 (by omega)
  rw [decide_eq_false hx0] at zr
  have e1 : decide (cmpR x ((-64 : Int) : Rat) < 0) = false := by rw [cmpR_lt]; exact decide_eq_false (Rat.not_lt.2 h1)
  have e2 : decide (cmpR x ((64 : Int) : Rat) > 0) = false := by rw [cmpR_gt]; exact decide_eq_false (Rat.not_lt.2 h2)
  have dp := x.den_pos
  have dR : (0 : Rat) < (x.den : Rat) := by exact_mod_cast dp
  have nd := Ex.denR x
  have n0 : 0 < x.num.natAbs := by
    have : x.num ≠ 0 := fun e => hx0 (num_zero.1 e)
    omega
  have xm : x.num ≤ 64 * (x.den : Int) ∧ -(64 * (x.den : Int)) ≤ x.num := by
    constructor
    · have m := Rat.mul_le_mul_of_nonneg_right h2 (Rat.le_of_lt dR)
      rw [nd] at m
      have : (x.num : Rat) ≤ ((64 * (x.den : Int) : Int) : Rat) := by rw [Rat.intCast_mul]; exact m
      exact Rat.intCast_le_intCast.1 this
    · have m := Rat.mul_le_mul_of_nonneg_right h1 (Rat.le_of_lt dR)
      rw [nd] at m
      have : ((-(64 * (x.den : Int)) : Int) : Rat) ≤ (x.num : Rat) := by
        rw [Rat.intCast_neg, Rat.intCast_mul]
        have e : -(((64 : Int) : Rat) * ((x.den : Int) : Rat)) = -64 * (x.den : Rat) := by
          have e3 : ((x.den : Int) : Rat) = (x.den : Rat) := rfl
          have e4 : ((64 : Int) : Rat) = 64 := rfl
          rw [e3, e4]; grind
        rw [e]; exact m
      exact Rat.intCast_le_intCast.1 this
  obtain ⟨m, -, lm, fn, en⟩ := exp_end (P := P) (n := x.num.natAbs) (d := x.den) (neg := decide (x.num < 0)) n0 dp (by omega) hd hP (Nat.le_trans zx.1 (by omega)) (Nat.le_trans zx.2 (by omega))
  have x1 : (if (0 : Int) > pI then (0 : Int) else pI) = (P : Int) := by split <;> omega
  have x2 : (if (512 : Int) < (P : Int) then (512 : Int) else (P : Int)) = (P : Int) := if_neg (by omega)
  refine ⟨m, lm, ?_, ?_⟩
  · clear en nd xm zx h1 h2 hx0 hpI
    obtain ⟨s, n, d, rfl, -⟩ := hv
    generalize mkRat (m : Int) (2 ^ P) = q1 at *
    generalize mkRat ((m + 1 : Nat) : Int) (2 ^ P) = q2 at *
    generalize cmpR x ((-64 : Int) : Rat) = y1 at *
    generalize cmpR x ((64 : Int) : Rat) = y2 at *
    refine Go.Ev.Fn.intro (fn := Tryz.f58) (body := (Tryz.f58).body.get!) (by kernel_rfl) (by kernel_rfl) (by kernel_rfl) (fun _ => rfl) (Nat.le_of_ble_eq_true (by kernel_rfl)) ?_; unfold Tryz.f58; simp only [Option.get!_some]
    repeat (first | (simp only [go_sem, Nat.reduceEqDiff, Nat.reduceAdd, Nat.reduceSub, Nat.reduceMul, Nat.reduceLeDiff, Nat.reduceLT, reduceIte, reduceCtorEq, Nat.succ_ne_zero, elemsC, Int.reduceToNat, Nat.reducePow, x1, x2, e1, e2, List.size_toArray, Array.size_empty]) | (simp (disch := (first | omega | (simp only [AL, List.length_map]; omega))) only [AR, AL, ifT, ifF, take_all, List.length_cons, List.length_nil, Int.reduceToNat, Int.reducePow, Nat.reducePow, x1, x2, e1, e2, List.size_toArray, Array.size_empty]) | (refine wk_intro (by kernel_rfl) ?_) | (refine vp_draw (id := 2) (l := []) (by kernel_rfl) ?_) | (refine vf_of (by first | exact n1 | exact im | exact c1 | exact ip | exact c2 | exact zr | exact fn) ?_))
  · by_cases hneg : x.num < 0
    · have xneg : x < 0 := by
        have := neg_numX (x := x)
        rw [decide_eq_true hneg] at this
        exact of_decide_eq_true this.symm
      obtain ⟨s0, hs⟩ := en (-x) (by
        have e : (x.num.natAbs : Int) = -x.num := by omega
        have e2 : ((x.num.natAbs : Nat) : Rat) = ((x.num.natAbs : Int) : Rat) := rfl
        rw [e2, e, Rat.intCast_neg, ← nd]; grind)
      rw [decide_eq_true hneg] at hs
      refine ⟨s0, fun L hL => ?_⟩
      unfold evX
      rw [if_pos xneg]
      exact hs L hL
    · have xpos : ¬ x < 0 := by
        have := neg_numX (x := x)
        rw [decide_eq_false hneg] at this
        exact of_decide_eq_false this.symm
      obtain ⟨s0, hs⟩ := en x (by
        have e : (x.num.natAbs : Int) = x.num := by omega
        have e2 : ((x.num.natAbs : Nat) : Rat) = ((x.num.natAbs : Int) : Rat) := rfl
        rw [e2, e, ← nd])
      rw [decide_eq_false hneg] at hs
      refine ⟨s0, fun L hL => ?_⟩
      unfold evX
      rw [if_neg xpos]
      exact hs L hL
end
end Go.Proofs.YtemnjalaincijaaGreat

/- Rows whose terms are each a number by k times the one ahead: they end. Plain mathematics. -/
namespace Go.Proofs.YtemnjalaincijaaGreat
open Go.Ev
set_option linter.unusedVariables false
/-- The row of incg and of bell, in naturals: from k on; the last term is below 4. -/
def tRow (w Y1 Y2 M : Nat) : Nat → Nat → Nat → Nat → Nat → Nat → Option (Nat × Nat)
  | 0, _, _, _, _, _ => none
  | f + 1, k, t1, t2, a1, a2 => if M ≤ k ∧ t2 < 4 then some (a1, a2 + 8) else
      tRow w Y1 Y2 M f (k + 2) (t1 * Y1 / 2 ^ w * 1 / k) ((t2 * Y2 / 2 ^ w + 1) * 1 / k + 1) (a1 + t1 * Y1 / 2 ^ w * 1 / k) (a2 + ((t2 * Y2 / 2 ^ w + 1) * 1 / k + 1))
/-- What holds behind i steps, from k0 on. -/
def tInv (w k0 i k t1 t2 a1 a2 : Nat) : Prop := k = k0 + 2 * i ∧ t1 ≤ t2 ∧ a1 ≤ a2 ∧ t2 < 2 ^ (w + 9 + 9 * min i 1024) ∧ a2 < (i + 2) * 2 ^ (w + 10000)
theorem tInv_0 {w k0 t1 t2 a1 a2 : Nat} (h1 : t1 ≤ t2) (h2 : a1 ≤ a2) (h3 : t2 < 2 ^ (w + 9)) (h4 : a2 < 2 ^ (w + 10)) : tInv w k0 0 k0 t1 t2 a1 a2 := by
  have : 2 ^ (w + 10) ≤ 2 ^ (w + 10000) := Nat.pow_le_pow_right (by omega) (by omega)
  refine ⟨by omega, h1, h2, h3, by omega⟩
theorem tStep_le {w Y2 k t2 : Nat} (hY : Y2 ≤ 2 ^ (w + 8)) (hk : 1 ≤ k) : (t2 * Y2 / 2 ^ w + 1) * 1 / k + 1 ≤ t2 * 256 + 2 ∧ (2048 ≤ k → (t2 * Y2 / 2 ^ w + 1) * 1 / k + 1 ≤ t2 / 8 + 2) ∧ (2048 ≤ k → t2 ≤ 4 → (t2 * Y2 / 2 ^ w + 1) * 1 / k + 1 = 1) := by
  have P : 0 < 2 ^ w := Nat.pow_pos (by omega)
  have h1 : t2 * Y2 / 2 ^ w ≤ t2 * 256 := by
    refine (Nat.div_le_iff_le_mul P).2 ?_
    have m := Nat.mul_le_mul_left t2 hY
    have e : t2 * 2 ^ (w + 8) = 2 ^ w * (t2 * 256) := by rw [Nat.pow_add, show (2 : Nat) ^ 8 = 256 from rfl, Nat.mul_left_comm]
    rw [Nat.mul_comm (t2 * 256)]
    omega
  rw [Nat.mul_one]
  generalize t2 * Y2 / 2 ^ w = q at *
  have a := Nat.div_le_self (q + 1) k
  refine ⟨by omega, fun g => ?_, fun g g2 => ?_⟩
  · have b : (q + 1) / k ≤ (q + 1) / 2048 := Nat.div_le_div_left g (by omega)
    omega
  · rw [Nat.div_eq_of_lt (by omega)]
theorem tInv_step {w Y1 Y2 k0 i k t1 t2 a1 a2 : Nat} (hY : Y2 ≤ 2 ^ (w + 8)) (hY1 : Y1 ≤ Y2) (hk0 : 1 ≤ k0) (h : tInv w k0 i k t1 t2 a1 a2) :
    tInv w k0 (i + 1) (k + 2) (t1 * Y1 / 2 ^ w * 1 / k) ((t2 * Y2 / 2 ^ w + 1) * 1 / k + 1) (a1 + t1 * Y1 / 2 ^ w * 1 / k) (a2 + ((t2 * Y2 / 2 ^ w + 1) * 1 / k + 1)) := by
  obtain ⟨h1, h2, h3, h4, h5⟩ := h
  obtain ⟨u1, u2, u3⟩ := tStep_le (t2 := t2) hY (show 1 ≤ k by omega)
  have q0 : t1 * Y1 / 2 ^ w * 1 / k ≤ (t2 * Y2 / 2 ^ w + 1) * 1 / k + 1 := by
    refine Nat.le_succ_of_le (Nat.div_le_div_right (Nat.mul_le_mul_right 1 ?_))
    exact Nat.le_succ_of_le (Nat.div_le_div_right (Nat.mul_le_mul h2 hY1))
  have nt : (t2 * Y2 / 2 ^ w + 1) * 1 / k + 1 < 2 ^ (w + 9 + 9 * min (i + 1) 1024) := by
    by_cases hi : i < 1024
    · rw [show min (i + 1) 1024 = min i 1024 + 1 by omega, show w + 9 + 9 * (min i 1024 + 1) = (w + 9 + 9 * min i 1024) + 9 by omega, Nat.pow_add _ _ 9, show (2 : Nat) ^ 9 = 512 from rfl]
      have : 2 ^ 2 ≤ 2 ^ (w + 9 + 9 * min i 1024) := Nat.pow_le_pow_right (by omega) (by omega)
      omega
    · rw [show min (i + 1) 1024 = min i 1024 by omega]
      have g := u2 (by omega)
      have : 2 ^ 4 ≤ 2 ^ (w + 9 + 9 * min i 1024) := Nat.pow_le_pow_right (by omega) (by omega)
      omega
  have le : 2 ^ (w + 9 + 9 * min (i + 1) 1024) ≤ 2 ^ (w + 10000) := Nat.pow_le_pow_right (by omega) (by omega)
  generalize t1 * Y1 / 2 ^ w * 1 / k = x at *
  generalize (t2 * Y2 / 2 ^ w + 1) * 1 / k + 1 = y at *
  refine ⟨by omega, q0, by omega, nt, ?_⟩
  rw [show i + 1 + 2 = (i + 2) + 1 by omega, Nat.add_mul (i + 2) 1, Nat.one_mul]
  omega
theorem tRow_low {w Y1 Y2 M k0 : Nat} (hY : Y2 ≤ 2 ^ (w + 8)) (hY1 : Y1 ≤ Y2) (hk0 : 1 ≤ k0) (hM : M ≤ 2048) : ∀ (m f i k t1 t2 a1 a2 : Nat), tInv w k0 i k t1 t2 a1 a2 → 2048 ≤ k → t2 ≤ 2 ^ (3 * m) + 3 → m + 2 ≤ f → ∃ A B, tRow w Y1 Y2 M f k t1 t2 a1 a2 = some (A, B) ∧ A ≤ B ∧ B < (i + m + 4) * 2 ^ (w + 10000) := by
  intro m
  induction m with
  | zero =>
    intro f i k t1 t2 a1 a2 h hk ht hf
    obtain ⟨f, rfl⟩ : ∃ j, f = j + 2 := ⟨f - 2, by omega⟩
    have P : 2 ^ 4 ≤ 2 ^ (w + 10000) := Nat.pow_le_pow_right (by omega) (by omega)
    have hh := h
    obtain ⟨h1, h2, h3, h4, h5⟩ := hh
    rw [tRow]
    by_cases g : M ≤ k ∧ t2 < 4
    · rw [if_pos g]
      refine ⟨a1, a2 + 8, rfl, by omega, ?_⟩
      rw [show i + 0 + 4 = (i + 2) + 2 by omega, Nat.add_mul (i + 2) 2]
      omega
    · rw [if_neg g]
      have st := tInv_step hY hY1 hk0 h
      have t4 : t2 ≤ 4 := by have : 2 ^ (3 * 0) = 1 := rfl; omega
      rw [(tStep_le (t2 := t2) hY (show 1 ≤ k by omega)).2.2 hk t4] at st ⊢
      obtain ⟨k1, k2, k3, k4, k5⟩ := st
      rw [tRow, if_pos (by omega)]
      refine ⟨_, _, rfl, by omega, ?_⟩
      rw [show i + 0 + 4 = (i + 1 + 2) + 1 by omega, Nat.add_mul (i + 1 + 2) 1]
      omega
  | succ m ih =>
    intro f i k t1 t2 a1 a2 h hk ht hf
    obtain ⟨f, rfl⟩ : ∃ j, f = j + 1 := ⟨f - 1, by omega⟩
    have P : 2 ^ 4 ≤ 2 ^ (w + 10000) := Nat.pow_le_pow_right (by omega) (by omega)
    have hh := h
    obtain ⟨h1, h2, h3, h4, h5⟩ := hh
    rw [tRow]
    by_cases g : M ≤ k ∧ t2 < 4
    · rw [if_pos g]
      refine ⟨a1, a2 + 8, rfl, by omega, ?_⟩
      rw [show i + (m + 1) + 4 = (i + 2) + (m + 3) by omega, Nat.add_mul (i + 2)]
      have := Nat.le_mul_of_pos_left (2 ^ (w + 10000)) (show 0 < m + 3 by omega)
      omega
    · rw [if_neg g]
      have st := tInv_step hY hY1 hk0 h
      have up := (tStep_le (t2 := t2) hY (show 1 ≤ k by omega)).2.1 hk
      have dv : t2 / 8 ≤ 2 ^ (3 * m) := by
        have e : 2 ^ (3 * (m + 1)) = 2 ^ (3 * m) * 8 := by rw [show 3 * (m + 1) = 3 * m + 3 by omega, Nat.pow_add]
        rw [e] at ht
        omega
      obtain ⟨A, B, r1, r2, r3⟩ := ih f (i + 1) (k + 2) _ _ _ _ st (by omega) (by omega) (by omega)
      exact ⟨A, B, r1, r2, by rw [show i + (m + 1) + 4 = i + 1 + m + 4 by omega]; exact r3⟩
/-- The row ends. -/
theorem tRow_end {w Y1 Y2 M k0 : Nat} (hY : Y2 ≤ 2 ^ (w + 8)) (hY1 : Y1 ≤ Y2) (hk0 : 1 ≤ k0) (hM : M ≤ 2048) (hw : w ≤ 3000) : ∀ (d f i k t1 t2 a1 a2 : Nat), tInv w k0 i k t1 t2 a1 a2 → 2048 ≤ k + 2 * d → i + d ≤ 1024 → d + 4100 ≤ f → ∃ A B, tRow w Y1 Y2 M f k t1 t2 a1 a2 = some (A, B) ∧ A ≤ B ∧ B < 2 ^ (w + 10014) := by
  have fin : ∀ z B : Nat, z ≤ 16000 → B < z * 2 ^ (w + 10000) → B < 2 ^ (w + 10014) := by
    intro z B hz hB
    have e : 2 ^ (w + 10014) = 16384 * 2 ^ (w + 10000) := by rw [show w + 10014 = 14 + (w + 10000) by omega, Nat.pow_add 2 14]
    have m := Nat.mul_le_mul_right (2 ^ (w + 10000)) (show z ≤ 16384 by omega)
    omega
  intro d
  induction d with
  | zero =>
    intro f i k t1 t2 a1 a2 h hk hi hf
    have h4 := h.2.2.2.1
    obtain ⟨m, hm⟩ : ∃ m : Nat, m = 4098 := ⟨_, rfl⟩
    obtain ⟨A, B, r1, r2, r3⟩ := tRow_low hY hY1 hk0 hM m f i k t1 t2 a1 a2 h (by omega) (by
      have : 2 ^ (w + 9 + 9 * min i 1024) ≤ 2 ^ (3 * m) := Nat.pow_le_pow_right (by omega) (by omega)
      omega) (by omega)
    exact ⟨A, B, r1, r2, fin _ _ (by omega) r3⟩
  | succ d ih =>
    intro f i k t1 t2 a1 a2 h hk hi hf
    obtain ⟨f, rfl⟩ : ∃ j, f = j + 1 := ⟨f - 1, by omega⟩
    have hh := h
    obtain ⟨h1, h2, h3, h4, h5⟩ := hh
    rw [tRow]
    by_cases g : M ≤ k ∧ t2 < 4
    · rw [if_pos g]
      refine ⟨a1, a2 + 8, rfl, by omega, fin (i + 3) _ (by omega) ?_⟩
      have P : 2 ^ 4 ≤ 2 ^ (w + 10000) := Nat.pow_le_pow_right (by omega) (by omega)
      rw [show i + 3 = (i + 2) + 1 by omega, Nat.add_mul (i + 2) 1]
      omega
    · rw [if_neg g]
      exact ih f (i + 1) (k + 2) _ _ _ _ (tInv_step hY hY1 hk0 h) (by omega) (by omega) (by omega)
end Go.Proofs.YtemnjalaincijaaGreat

/- rat.Floor; ball: held, Down, Up, Trim, around, Mul, in the evaluator. -/
namespace Go.Proofs.YtemnjalaincijaaGreat
set_option linter.unusedSimpArgs false
set_option linter.unusedVariables false
set_option maxRecDepth 8000
open Go.Ev
theorem floor_num (q : Rat) : q.floor = q.num / (q.den : Int) := Rat.floor_def q
theorem int_abs {z : Int} {n : Nat} {s : Bool} (h : z = sgn s n) : z.natAbs = n := by rw [h, sgn_abs]
theorem rv_int (z : Int) : rv (z : Rat) = ratV (decide (z < 0)) (lim z.natAbs) [1] := by
  show ratV (decide (z < 0)) (lim z.natAbs) (lim 1) = _
  rw [lim_one]
theorem rat_Floor {v : SV} {q : Rat} {L : Nat} (hv : RatA v q L) (hL1 : 1 ≤ L) (hL : L ≤ 1000000) : Go.Ev.Fn CX 202 [v] (rv ((q.floor : Int) : Rat)) := by
  have n1 := rat_Norm hv (by omega)
  obtain ⟨z1, z2⟩ := szR_of hv hL1
  have dv := nat_DivL (N := q.num.natAbs) (D := q.den) q.den_nz (by omega) (by omega)
  have l1 := lim_len_mono (Nat.div_le_self q.num.natAbs q.den)
  have l2 := lim_len_mono (Nat.mod_le q.num.natAbs q.den)
  have l3 := lim_len1
  have o1 := nat_Of 1 (by omega)
  rw [lim_one] at o1
  have ad := nat_AddL (N := q.num.natAbs / q.den) (D := 1) (by omega) (by omega)
  rw [lim_one] at ad
  have l4 := lim_len_add (a := q.num.natAbs / q.den) (b := 1) (L := 1000000) (by omega) (by omega)
  have sg1 := rat_signed (decide (q.num < 0)) false (lim (q.num.natAbs / q.den)) [1] (by omega)
  have sg2 := rat_signed true false (lim (q.num.natAbs / q.den + 1)) [1] (by omega)
  have e := fall_eq (a := q.num) q.den_nz
  rw [floor_num]
  rw [rv_int]
  have hl := fun (n : Nat) => lenpos (n := n)
  have key : ∀ (s : Bool) (n : Nat), ratV (decide (sgn s n < 0)) (lim (sgn s n).natAbs) [1] = ratV (s && decide (0 < (lim n).length)) (lim n) [1] := by
    intro s n
    rw [sgn_abs, lim_ne]
    by_cases h : n = 0
    · subst h; rw [sgn_zero]; cases s <;> rfl
    · rw [sgn_neg s h, decide_eq_true h, Bool.and_true]
  by_cases h : q.num < 0 ∧ q.num.natAbs % q.den ≠ 0
  · rw [if_pos h] at e
    rw [e, show -((q.num.natAbs / q.den + 1 : Nat) : Int) = sgn true (q.num.natAbs / q.den + 1) from rfl, key]
    have hs : decide (q.num < 0) = true := decide_eq_true h.1
    have hm : decide (q.num.natAbs % q.den ≠ 0) = true := decide_eq_true h.2
    rw [hs] at sg1
    clear e key h
    obtain ⟨s, n, d, rfl, -⟩ := hv
    generalize q.num.natAbs / q.den + 1 = y at *
    generalize q.num.natAbs / q.den = x at *
    generalize q.num.natAbs % q.den = r at *
    generalize (true && decide (0 < (lim y).length)) = z at *
    refine Go.Ev.Fn.intro (fn := Tryz.f202) (body := (Tryz.f202).body.get!) (by kernel_rfl) (by kernel_rfl) (by kernel_rfl) (fun _ => rfl) (Nat.le_of_ble_eq_true (by kernel_rfl)) ?_; unfold Tryz.f202; simp only [Option.get!_some]
    repeat (first | (simp only [go_sem, Nat.reduceEqDiff, Nat.reduceAdd, Nat.reduceSub, Nat.reduceMul, Nat.reduceLeDiff, Nat.reduceLT, reduceIte, reduceCtorEq, Nat.succ_ne_zero, elemsC, Int.reduceToNat, Nat.reducePow, hs, hl, hm]) | (simp (disch := (first | omega | (simp only [AL, List.length_map]; omega))) only [AR, AL, ifT, ifF, take_all, List.length_cons, List.length_nil, Int.reduceToNat, Int.reducePow, Nat.reducePow, hs, hl, hm]) | (refine wk_intro (by kernel_rfl) ?_) | (refine vp_draw (id := 5) (l := [3]) (by kernel_rfl) ?_) | (refine vf_of (by first | exact n1 | exact dv | exact o1 | exact ad | exact sg2) ?_))
  · rw [if_neg h] at e
    rw [e, key]
    by_cases h1 : q.num < 0
    · have hs : decide (q.num < 0) = true := decide_eq_true h1
      have hm : decide (q.num.natAbs % q.den ≠ 0) = false := decide_eq_false (fun g => h ⟨h1, g⟩)
      rw [hs] at sg1
      rw [hs]
      clear e key h h1
      obtain ⟨s, n, d, rfl, -⟩ := hv
      generalize q.num.natAbs / q.den = x at *
      generalize q.num.natAbs % q.den = r at *
      generalize (true && decide (0 < (lim x).length)) = z at *
      refine Go.Ev.Fn.intro (fn := Tryz.f202) (body := (Tryz.f202).body.get!) (by kernel_rfl) (by kernel_rfl) (by kernel_rfl) (fun _ => rfl) (Nat.le_of_ble_eq_true (by kernel_rfl)) ?_; unfold Tryz.f202; simp only [Option.get!_some]
      repeat (first | (simp only [go_sem, Nat.reduceEqDiff, Nat.reduceAdd, Nat.reduceSub, Nat.reduceMul, Nat.reduceLeDiff, Nat.reduceLT, reduceIte, reduceCtorEq, Nat.succ_ne_zero, elemsC, Int.reduceToNat, Nat.reducePow, hs, hl, hm]) | (simp (disch := (first | omega | (simp only [AL, List.length_map]; omega))) only [AR, AL, ifT, ifF, take_all, List.length_cons, List.length_nil, Int.reduceToNat, Int.reducePow, Nat.reducePow, hs, hl, hm]) | (refine wk_intro (by kernel_rfl) ?_) | (refine vp_draw (id := 5) (l := [3]) (by kernel_rfl) ?_) | (refine vf_of (by first | exact n1 | exact dv | exact o1 | exact sg1) ?_))
    · have hs : decide (q.num < 0) = false := decide_eq_false h1
      rw [hs] at sg1
      rw [hs]
      clear e key h h1
      obtain ⟨s, n, d, rfl, -⟩ := hv
      generalize q.num.natAbs / q.den = x at *
      generalize q.num.natAbs % q.den = r at *
      generalize (false && decide (0 < (lim x).length)) = z at *
      refine Go.Ev.Fn.intro (fn := Tryz.f202) (body := (Tryz.f202).body.get!) (by kernel_rfl) (by kernel_rfl) (by kernel_rfl) (fun _ => rfl) (Nat.le_of_ble_eq_true (by kernel_rfl)) ?_; unfold Tryz.f202; simp only [Option.get!_some]
      repeat (first | (simp only [go_sem, Nat.reduceEqDiff, Nat.reduceAdd, Nat.reduceSub, Nat.reduceMul, Nat.reduceLeDiff, Nat.reduceLT, reduceIte, reduceCtorEq, Nat.succ_ne_zero, elemsC, Int.reduceToNat, Nat.reducePow, hs, hl]) | (simp (disch := (first | omega | (simp only [AL, List.length_map]; omega))) only [AR, AL, ifT, ifF, take_all, List.length_cons, List.length_nil, Int.reduceToNat, Int.reducePow, Nat.reducePow, hs, hl]) | (refine wk_intro (by kernel_rfl) ?_) | (refine vp_draw (id := 5) (l := [3]) (by kernel_rfl) ?_) | (refine vf_of (by first | exact n1 | exact dv | exact o1 | exact sg1) ?_))
/-- Rounded down to so many digits. -/
def dnR (q : Rat) (p : Nat) : Rat := mkRat (q * p2 p).floor (2 ^ p)
theorem floor_sz {q : Rat} {L : Nat} (h : szR q L) (hL : 1 ≤ L) : (lim q.floor.natAbs).length ≤ L + 1 := by
  rw [floor_num]
  have := lim_len_mono (abs_div_le q.num q.den_nz)
  have := h.1
  omega
theorem p2_sz {p : Nat} (hp : p ≤ 512) : szR (p2 p) 18 := by
  have l := lim_len_shl (a := 1) (n := p)
  have l1 := lim_len1
  rw [Nat.one_mul] at l
  refine ⟨?_, ?_⟩
  · show (lim (((2 ^ p : Nat) : Int) : Rat).num.natAbs).length ≤ 18
    rw [Rat.num_intCast, Int.natAbs_natCast]; omega
  · show (lim (((2 ^ p : Nat) : Int) : Rat).den).length ≤ 18
    rw [Rat.den_intCast]; omega
theorem dnR_sz {q : Rat} {L p : Nat} (h : szR q L) (hL : 1 ≤ L) (hp : p ≤ 512) : szR (dnR q p) (L + 40) := by
  have h1 := szR_mul h (p2_sz hp) hL
  have h2 := floor_sz h1 (by omega)
  have l := lim_len_shl (a := 1) (n := p)
  have l1 := lim_len1
  rw [Nat.one_mul] at l
  have h3 := szR_mk (s := decide ((q * p2 p).floor < 0)) (n := (q * p2 p).floor.natAbs) (d := 2 ^ p) (L := L + 40) (by omega) (by omega) (by omega)
  rw [sgn_self] at h3
  exact h3
theorem dnR_le (q : Rat) (p : Nat) : dnR q p ≤ q ∧ q * p2 p < dnR q p * p2 p + 1 := by
  have P := p2_pos p
  have m : dnR q p * p2 p = ((q * p2 p).floor : Rat) := by
    unfold dnR
    rw [Rat.mkRat_eq_div]
    exact Rat.div_mul_cancel (by have : (0 : Rat) < ((2 ^ p : Nat) : Rat) := P; grind)
  have f1 := Rat.floor_le (q * p2 p)
  have f2 := Rat.lt_floor_add_one (q * p2 p)
  refine ⟨le_by P (by rw [m]; exact f1), ?_⟩
  rw [m]
  rw [Rat.intCast_add] at f2
  exact f2
/-- Rounded up. -/
def upR (q : Rat) (p : Nat) : Rat := -dnR (-q) p
def mnR (m x : Rat) : Rat := if x < m then x else m
def mxR (m x : Rat) : Rat := if m < x then x else m
/-- The least and the greatest of a number and so many of a row. -/
def loL (f : Rat) (l : List Rat) : Rat := l.foldl mnR f
def hiL (f : Rat) (l : List Rat) : Rat := l.foldl mxR f
theorem loL_snoc (f : Rat) (l : List Rat) {i : Nat} (h : i < l.length) : loL f (l.take (i + 1)) = mnR (loL f (l.take i)) (l.getD i 0) := by
  unfold loL
  rw [List.take_add_one, List.foldl_append, List.getD_eq_getElem?_getD, List.getElem?_eq_getElem h]
  rfl
theorem hiL_snoc (f : Rat) (l : List Rat) {i : Nat} (h : i < l.length) : hiL f (l.take (i + 1)) = mxR (hiL f (l.take i)) (l.getD i 0) := by
  unfold hiL
  rw [List.take_add_one, List.foldl_append, List.getD_eq_getElem?_getD, List.getElem?_eq_getElem h]
  rfl
end Go.Proofs.YtemnjalaincijaaGreat

/- ball: around, Mul, in the evaluator. -/
namespace Go.Proofs.YtemnjalaincijaaGreat
set_option linter.unusedSimpArgs false
set_option linter.unusedVariables false
set_option maxRecDepth 8000
open Go.Ev
/-- A ball's cells. -/
abbrev ballC (a b : Rat) : List SV := [.bool (decide (a.num < 0)), natV (lim a.num.natAbs), natV (lim a.den), .bool (decide (b.num < 0)), natV (lim b.num.natAbs), natV (lim b.den)]
theorem loL_sz {f : Rat} {l : List Rat} {L : Nat} (hf : szR f L) (hl : ∀ x ∈ l, szR x L) : szR (loL f l) L := by
  induction l generalizing f with
  | nil => exact hf
  | cons x l ih =>
    refine ih (f := mnR f x) ?_ (fun y hy => hl y (List.mem_cons_of_mem _ hy))
    unfold mnR
    split
    · exact hl x List.mem_cons_self
    · exact hf
theorem hiL_sz {f : Rat} {l : List Rat} {L : Nat} (hf : szR f L) (hl : ∀ x ∈ l, szR x L) : szR (hiL f l) L := by
  induction l generalizing f with
  | nil => exact hf
  | cons x l ih =>
    refine ih (f := mxR f x) ?_ (fun y hy => hl y (List.mem_cons_of_mem _ hy))
    unfold mxR
    split
    · exact hl x List.mem_cons_self
    · exact hf
set_option maxHeartbeats 1000000 in
theorem ball_around {f : Rat} {l : List Rat} {L : Nat} (hf : szR f L) (hl : ∀ x ∈ l, szR x L) (hL1 : 1 ≤ L) (hL : L ≤ 10000) (hn : l.length ≤ 10) : Go.Ev.Fn CX 188 [rv f, .sl l.length (rvsC l)] (ballR (loL f l) (hiL f l)) := by
  have o := ball_Of (RatA_rv hf) (by omega)
  have hat := fun {i : Nat} (h : i < l.length) => rvsC_at (l := l) (i := i) h
  have hlen := rvsC_len l
  have zlo := fun i => loL_sz (f := f) (l := l.take i) hf (fun x hx => hl x (List.mem_of_mem_take hx))
  have zhi := fun i => hiL_sz (f := f) (l := l.take i) hf (fun x hx => hl x (List.mem_of_mem_take hx))
  have zx := fun {i : Nat} (h : i < l.length) => hl _ (getD_mem (l := l) h)
  have slo := fun {i : Nat} (h : i < l.length) => loL_snoc f l h
  have shi := fun {i : Nat} (h : i < l.length) => hiL_snoc f l h
  generalize hcs : rvsC l = cs at *
  clear hl hf
  refine Go.Ev.Fn.intro (fn := Tryz.f188) (body := (Tryz.f188).body.get!) (by kernel_rfl) (by kernel_rfl) (by kernel_rfl) (fun _ => rfl) (Nat.le_of_ble_eq_true (by kernel_rfl)) ?_; unfold Tryz.f188; simp only [Option.get!_some]
  repeat (first | (simp only [go_sem, Nat.reduceEqDiff, Nat.reduceAdd, Nat.reduceSub, Nat.reduceMul, Nat.reduceLeDiff, Nat.reduceLT, reduceIte, reduceCtorEq, Nat.succ_ne_zero, elemsC, Int.reduceToNat, Nat.reducePow]) | (simp (disch := (first | omega | (simp only [AL, List.length_map]; omega))) only [AR, AL, ifT, ifF, take_all, List.length_cons, List.length_nil, Int.reduceToNat, Int.reducePow, Nat.reducePow]) | (refine wk_intro (by kernel_rfl) ?_) | (refine vf_of (by first | exact o) ?_))
  refine vp_loop_inv (fun s => s.tmp 4 = .ptr 4 0 0 ∧ s.obj 4 0 = some [.bool false, .sl 0 [], .sl 0 [], .bool false, .sl 0 [], .sl 0 []] ∧ s.tmp 5 = .ptr 5 0 0 ∧ s.tmp 10 = .sv (.sl l.length cs) ∧ s.tmp 11 = .sv (.int .i64 (l.length : Int)) ∧
      ∃ i : Nat, s.tmp 12 = .sv (.int .i64 (i : Int)) ∧ i ≤ l.length ∧ s.obj 5 0 = some (ballC (loL f (l.take i)) (hiL f (l.take i))))
    (fun s => match s.tmp 12 with | .sv (.int _ i) => l.length - i.toNat | _ => 0) ⟨rfl, rfl, rfl, rfl, rfl, 0, rfl, by omega, rfl⟩ ?_
  rintro s ⟨i4, o4, i5, i10, i11, i, i12, hi, o5⟩
  by_cases hend : i = l.length
  · subst hend
    rw [List.take_length] at o5
    clear hat zlo zhi zx slo shi
    generalize loL f l = lo at *
    generalize hiL f l = hh at *
    repeat (first | (simp only [go_sem, Nat.reduceEqDiff, Nat.reduceAdd, Nat.reduceSub, Nat.reduceMul, Nat.reduceLeDiff, Nat.reduceLT, reduceIte, reduceCtorEq, Nat.succ_ne_zero, elemsC, Int.reduceToNat, Nat.reducePow, i4, o4, i5, i10, i11, i12, o5, ballC]) | (simp (disch := (first | omega | (simp only [AL, List.length_map]; omega))) only [AR, AL, ifT, ifF, take_all, List.length_cons, List.length_nil, Int.reduceToNat, Int.reducePow, Nat.reducePow, i4, o4, i5, i10, i11, i12, o5, ballC]) | (refine wk_intro (by kernel_rfl) ?_))
  · obtain ⟨rest, g1⟩ := hat (i := i) (by omega)
    have a1 := zlo i
    have a2 := zhi i
    have a3 := zx (i := i) (by omega)
    have b1 := slo (i := i) (by omega)
    have b2 := shi (i := i) (by omega)
    generalize hlo' : loL f (l.take (i + 1)) = lo' at *
    generalize hhi' : hiL f (l.take (i + 1)) = hi' at *
    generalize loL f (l.take i) = lo at *
    generalize hiL f (l.take i) = hh at *
    generalize l.getD i 0 = x at *
    have c1 := rat_Cmp (RatA_rv a3) (RatA_rv a1) hL1 hL1 (by omega)
    have c2 := rat_Cmp (RatA_rv a3) (RatA_rv a2) hL1 hL1 (by omega)
    have nx := rat_Norm (RatA_rv a3) (by omega)
    have e1 := cmpR_lt (q := x) (r := lo)
    have e2 := cmpR_gt (q := x) (r := hh)
    clear hat zlo zhi zx slo shi a1 a2 a3
    generalize cmpR x lo = z1 at *
    generalize cmpR x hh = z2 at *
    unfold ballC at o5
    by_cases k1 : x < lo
    · rw [decide_eq_true k1] at e1
      rw [mnR, if_pos k1] at b1
      by_cases k2 : hh < x
      · rw [decide_eq_true k2] at e2
        rw [mxR, if_pos k2] at b2
        clear k1 k2
        repeat (first | (simp only [go_sem, Nat.reduceEqDiff, Nat.reduceAdd, Nat.reduceSub, Nat.reduceMul, Nat.reduceLeDiff, Nat.reduceLT, reduceIte, reduceCtorEq, Nat.succ_ne_zero, elemsC, Int.reduceToNat, Nat.reducePow, i4, o4, i5, i10, i11, i12, o5, g1, hlen, e1, e2]) | (simp (disch := (first | omega | (simp only [AL, List.length_map]; omega))) only [AR, AL, ifT, ifF, take_all, List.length_cons, List.length_nil, Int.reduceToNat, Int.reducePow, Nat.reducePow, i4, o4, i5, i10, i11, i12, o5, g1, hlen, e1, e2]) | (refine wk_intro (by kernel_rfl) ?_) | (refine vf_of (by first | exact c1 | exact nx | exact c2) ?_))
        exact ⟨⟨i + 1, rfl, by omega, by rw [hlo', hhi', b1, b2]⟩, by omega⟩
      · rw [decide_eq_false k2] at e2
        rw [mxR, if_neg k2] at b2
        clear k1 k2
        repeat (first | (simp only [go_sem, Nat.reduceEqDiff, Nat.reduceAdd, Nat.reduceSub, Nat.reduceMul, Nat.reduceLeDiff, Nat.reduceLT, reduceIte, reduceCtorEq, Nat.succ_ne_zero, elemsC, Int.reduceToNat, Nat.reducePow, i4, o4, i5, i10, i11, i12, o5, g1, hlen, e1, e2]) | (simp (disch := (first | omega | (simp only [AL, List.length_map]; omega))) only [AR, AL, ifT, ifF, take_all, List.length_cons, List.length_nil, Int.reduceToNat, Int.reducePow, Nat.reducePow, i4, o4, i5, i10, i11, i12, o5, g1, hlen, e1, e2]) | (refine wk_intro (by kernel_rfl) ?_) | (refine vf_of (by first | exact c1 | exact nx | exact c2) ?_))
        exact ⟨⟨i + 1, rfl, by omega, by rw [hlo', hhi', b1, b2]⟩, by omega⟩
    · rw [decide_eq_false k1] at e1
      rw [mnR, if_neg k1] at b1
      by_cases k2 : hh < x
      · rw [decide_eq_true k2] at e2
        rw [mxR, if_pos k2] at b2
        clear k1 k2
        repeat (first | (simp only [go_sem, Nat.reduceEqDiff, Nat.reduceAdd, Nat.reduceSub, Nat.reduceMul, Nat.reduceLeDiff, Nat.reduceLT, reduceIte, reduceCtorEq, Nat.succ_ne_zero, elemsC, Int.reduceToNat, Nat.reducePow, i4, o4, i5, i10, i11, i12, o5, g1, hlen, e1, e2]) | (simp (disch := (first | omega | (simp only [AL, List.length_map]; omega))) only [AR, AL, ifT, ifF, take_all, List.length_cons, List.length_nil, Int.reduceToNat, Int.reducePow, Nat.reducePow, i4, o4, i5, i10, i11, i12, o5, g1, hlen, e1, e2]) | (refine wk_intro (by kernel_rfl) ?_) | (refine vf_of (by first | exact c1 | exact c2 | exact nx) ?_))
        exact ⟨⟨i + 1, rfl, by omega, by rw [hlo', hhi', b1, b2]⟩, by omega⟩
      · rw [decide_eq_false k2] at e2
        rw [mxR, if_neg k2] at b2
        clear k1 k2
        repeat (first | (simp only [go_sem, Nat.reduceEqDiff, Nat.reduceAdd, Nat.reduceSub, Nat.reduceMul, Nat.reduceLeDiff, Nat.reduceLT, reduceIte, reduceCtorEq, Nat.succ_ne_zero, elemsC, Int.reduceToNat, Nat.reducePow, i4, o4, i5, i10, i11, i12, o5, g1, hlen, e1, e2]) | (simp (disch := (first | omega | (simp only [AL, List.length_map]; omega))) only [AR, AL, ifT, ifF, take_all, List.length_cons, List.length_nil, Int.reduceToNat, Int.reducePow, Nat.reducePow, i4, o4, i5, i10, i11, i12, o5, g1, hlen, e1, e2]) | (refine wk_intro (by kernel_rfl) ?_) | (refine vf_of (by first | exact c1 | exact c2) ?_))
        exact ⟨⟨i + 1, rfl, by omega, by rw [hlo', hhi', b1, b2]⟩, by omega⟩
theorem ball_Mul {a b c d : Rat} {L : Nat} (ha : szR a L) (hb : szR b L) (hc : szR c L) (hd : szR d L) (hL1 : 1 ≤ L) (hL : L ≤ 1000) :
    Go.Ev.Fn CX 148 [ballR a b, ballR c d] (ballR (loL (a * c) [a * d, b * c, b * d]) (hiL (a * c) [a * d, b * c, b * d])) := by
  have m1 := rat_Mul (RatA_rv ha) (RatA_rv hc) hL1 hL1 (by omega)
  have m2 := rat_Mul (RatA_rv ha) (RatA_rv hd) hL1 hL1 (by omega)
  have m3 := rat_Mul (RatA_rv hb) (RatA_rv hc) hL1 hL1 (by omega)
  have m4 := rat_Mul (RatA_rv hb) (RatA_rv hd) hL1 hL1 (by omega)
  have z1 := szR_mul ha hc hL1
  have z2 := szR_mul ha hd hL1
  have z3 := szR_mul hb hc hL1
  have z4 := szR_mul hb hd hL1
  generalize a * c = p1 at *
  generalize a * d = p2 at *
  generalize b * c = p3 at *
  generalize b * d = p4 at *
  have ar := ball_around (f := p1) (l := [p2, p3, p4]) (L := L + L) z1 (by
    intro x hx
    simp only [List.mem_cons, List.not_mem_nil, or_false] at hx
    rcases hx with rfl | rfl | rfl <;> assumption) (by omega) (by omega) (by simp)
  have ar' : Go.Ev.Fn CX 188 [rv p1, .sl 3 [.bool (decide (p2.num < 0)), natV (lim p2.num.natAbs), natV (lim p2.den), .bool (decide (p3.num < 0)), natV (lim p3.num.natAbs), natV (lim p3.den), .bool (decide (p4.num < 0)), natV (lim p4.num.natAbs), natV (lim p4.den)]] (ballR (loL p1 [p2, p3, p4]) (hiL p1 [p2, p3, p4])) := ar
  clear ar
  generalize loL p1 [p2, p3, p4] = lo at *
  generalize hiL p1 [p2, p3, p4] = hi at *
  refine Go.Ev.Fn.intro (fn := Tryz.f148) (body := (Tryz.f148).body.get!) (by kernel_rfl) (by kernel_rfl) (by kernel_rfl) (fun _ => rfl) (Nat.le_of_ble_eq_true (by kernel_rfl)) ?_; unfold Tryz.f148; simp only [Option.get!_some]
  repeat (first | (simp only [go_sem, Nat.reduceEqDiff, Nat.reduceAdd, Nat.reduceSub, Nat.reduceMul, Nat.reduceLeDiff, Nat.reduceLT, reduceIte, reduceCtorEq, Nat.succ_ne_zero, elemsC, Int.reduceToNat, Nat.reducePow]) | (simp (disch := (first | omega | (simp only [AL, List.length_map]; omega))) only [AR, AL, ifT, ifF, take_all, List.length_cons, List.length_nil, Int.reduceToNat, Int.reducePow, Nat.reducePow]) | (refine wk_intro (by kernel_rfl) ?_) | (refine vp_draw (id := 1) (l := [25]) (by kernel_rfl) ?_) | (refine vf_of (by first | exact m1 | exact m2 | exact m3 | exact m4 | exact ar') ?_))
end Go.Proofs.YtemnjalaincijaaGreat

/- A number times roots of pi, in balls: plain mathematics. -/
namespace Go.Proofs.YtemnjalaincijaaGreat
open Go.Ev
set_option linter.unusedVariables false
theorem p2_add (a b : Nat) : p2 (a + b) = p2 a * p2 b := by
  show ((2 ^ (a + b) : Nat) : Rat) = _
  rw [Nat.pow_add]
  exact_mod_cast rfl
theorem n_mul (a b : Nat) : ((a * b : Nat) : Rat) = (a : Rat) * (b : Rat) := by exact_mod_cast rfl
theorem n_le {a b : Nat} (h : a ≤ b) : (a : Rat) ≤ (b : Rat) := by exact_mod_cast h
theorem n_nn (a : Nat) : (0 : Rat) ≤ (a : Rat) := by exact_mod_cast Nat.zero_le a
/-- The constant near the root of pi. -/
def SQ : Rat := mkRat (rootPi : Int) (2 ^ 400)
theorem SQ_mul : SQ * p2 400 = (rootPi : Rat) := by
  unfold SQ
  rw [Rat.mkRat_eq_div]
  exact Rat.div_mul_cancel (by have : (0 : Rat) < p2 400 := p2_pos 400; grind)
theorem SQ_nn : 0 ≤ SQ := le_by (p2_pos 400) (by rw [SQ_mul, Rat.zero_mul]; exact n_nn _)
theorem sq_split {p : Nat} (hp : p ≤ 800) : SQ * SQ * p2 p * p2 (800 - p) = ((rootPi * rootPi : Nat) : Rat) := by
  have h1 : p2 p * p2 (800 - p) = p2 400 * p2 400 := by rw [← p2_add, ← p2_add]; congr 1; omega
  have h2 : SQ * SQ * p2 p * p2 (800 - p) = SQ * SQ * (p2 p * p2 (800 - p)) := by grind
  have h3 : SQ * SQ * (p2 400 * p2 400) = (SQ * p2 400) * (SQ * p2 400) := by grind
  rw [h2, h1, h3, SQ_mul, n_mul]
theorem sq_lo {a p : Nat} (hp : p ≤ 800) (h : a * 2 ^ (800 - p) ≤ rootPi * rootPi) : (a : Rat) ≤ SQ * SQ * p2 p := by
  refine le_by (p2_pos (800 - p)) ?_
  rw [sq_split hp]
  have := n_le h
  rw [n_mul] at this
  exact this
theorem sq_hi {a p : Nat} (hp : p ≤ 800) (h : rootPi * rootPi ≤ a * 2 ^ (800 - p)) : SQ * SQ * p2 p ≤ (a : Rat) := by
  refine le_by (p2_pos (800 - p)) ?_
  rw [sq_split hp]
  have := n_le h
  rw [n_mul a] at this
  exact this
theorem sq_ge {a p : Nat} (hp : p ≤ 400) (h : rootPi * rootPi ≤ (a + 1) * 2 ^ (800 - p)) : 2 ^ p ≤ a := by
  have h1 : 2 * 2 ^ 800 ≤ rootPi * rootPi := by decide +kernel
  have h2 : 2 ^ 800 = 2 ^ p * 2 ^ (800 - p) := by rw [← Nat.pow_add]; congr 1; omega
  have h3 : 0 < 2 ^ (800 - p) := Nat.pow_pos (by omega)
  have h4 : 2 * 2 ^ p * 2 ^ (800 - p) ≤ (a + 1) * 2 ^ (800 - p) := by rw [Nat.mul_assoc, ← h2]; exact Nat.le_trans h1 h
  have h5 := Nat.le_of_mul_le_mul_right h4 h3
  have h6 : 0 < 2 ^ p := Nat.pow_pos (by omega)
  omega
theorem sq_mono {x y : Rat} (hx : 0 ≤ x) (hy : 0 ≤ y) (h : x * x ≤ y * y) : x ≤ y := by
  rcases Rat.le_total (a := x) (b := y) with g | g
  · exact g
  · by_cases e : y = x
    · rw [e]; exact Rat.le_refl
    · have h1 : y < x := by grind
      have h2 : y * y ≤ x * y := Rat.mul_le_mul_of_nonneg_right g hy
      have h3 : x * y < x * x := by
        have : 0 < x * (x - y) := Rat.mul_pos (by grind) (by grind)
        grind
      grind
theorem root_width {lo lo' hi' hi A B P : Rat} (hP : 0 < P) (a2 : lo ≤ lo') (a4 : A ≤ lo' * lo') (a5 : (lo' - lo) * P ≤ 1) (h0 : 0 ≤ lo) (b1 : 0 ≤ hi') (b3 : hi' * hi' ≤ B) (b5 : (hi - hi') * P ≤ 1) (hA : 1 ≤ A) (hAB : (B - A) * P ≤ 1) (hAB0 : A ≤ B) : (hi - lo) * P ≤ 3 := by
  have l0 : 0 ≤ lo' := Rat.le_trans h0 a2
  have l1 : 1 ≤ lo' := sq_mono (by decide) l0 (by rw [Rat.mul_one]; exact Rat.le_trans hA a4)
  have key : hi' - lo' ≤ B - A := by
    rcases Rat.le_total (a := hi') (b := lo') with g | g
    · grind
    · have h1 : (hi' - lo') * 1 ≤ (hi' - lo') * (hi' + lo') := Rat.mul_le_mul_of_nonneg_left (by grind) (by grind)
      have h2 : (hi' - lo') * (hi' + lo') = hi' * hi' - lo' * lo' := by grind
      grind
  have k2 := Rat.mul_le_mul_of_nonneg_right key (show 0 ≤ P by grind)
  have e : (hi - lo) * P = (hi - hi') * P + (hi' - lo') * P + (lo' - lo) * P := by grind
  grind
theorem ball_one {q m1 m2 T K : Rat} (h1 : m1 ≤ T) (h2 : T ≤ m2) (hK : q ≤ K) (hK2 : -q ≤ K) :
    loL (q * m1) [q * m2, q * m1, q * m2] ≤ q * T ∧ q * T ≤ hiL (q * m1) [q * m2, q * m1, q * m2] ∧ hiL (q * m1) [q * m2, q * m1, q * m2] - loL (q * m1) [q * m2, q * m1, q * m2] ≤ K * (m2 - m1) := by
  have hm : m1 ≤ m2 := Rat.le_trans h1 h2
  have hd : 0 ≤ m2 - m1 := by grind
  have sh1 : loL (q * m1) [q * m2, q * m1, q * m2] = mnR (mnR (mnR (q * m1) (q * m2)) (q * m1)) (q * m2) := rfl
  have sh2 : hiL (q * m1) [q * m2, q * m1, q * m2] = mxR (mxR (mxR (q * m1) (q * m2)) (q * m1)) (q * m2) := rfl
  rcases Rat.le_total (a := 0) (b := q) with g | g
  · have e1 := Rat.mul_le_mul_of_nonneg_left h1 g
    have e2 := Rat.mul_le_mul_of_nonneg_left h2 g
    have e3 := Rat.mul_le_mul_of_nonneg_left hm g
    have e4 := Rat.mul_le_mul_of_nonneg_right hK hd
    have l : loL (q * m1) [q * m2, q * m1, q * m2] = q * m1 := by
      rw [sh1, show mnR (q * m1) (q * m2) = q * m1 from if_neg (by grind), show mnR (q * m1) (q * m1) = q * m1 from if_neg (by grind)]
      exact if_neg (by grind)
    have h : hiL (q * m1) [q * m2, q * m1, q * m2] = q * m2 := by
      have x1 : mxR (q * m1) (q * m2) = q * m2 := by unfold mxR; split <;> grind
      have x2 : mxR (q * m2) (q * m1) = q * m2 := by unfold mxR; split <;> grind
      have x3 : mxR (q * m2) (q * m2) = q * m2 := by unfold mxR; split <;> grind
      rw [sh2, x1, x2, x3]
    rw [l, h]
    refine ⟨e1, e2, ?_⟩
    grind
  · have f : ∀ {x y : Rat}, x ≤ y → q * y ≤ q * x := by
      intro x y hxy
      have := Rat.mul_le_mul_of_nonneg_left hxy (show 0 ≤ -q by grind)
      grind
    have e1 := f h1
    have e2 := f h2
    have e3 := f hm
    have e4 := Rat.mul_le_mul_of_nonneg_right hK2 hd
    have l : loL (q * m1) [q * m2, q * m1, q * m2] = q * m2 := by
      have x1 : mnR (q * m1) (q * m2) = q * m2 := by unfold mnR; split <;> grind
      have x2 : mnR (q * m2) (q * m1) = q * m2 := by unfold mnR; split <;> grind
      have x3 : mnR (q * m2) (q * m2) = q * m2 := by unfold mnR; split <;> grind
      rw [sh1, x1, x2, x3]
    have h : hiL (q * m1) [q * m2, q * m1, q * m2] = q * m1 := by
      rw [sh2, show mxR (q * m1) (q * m2) = q * m1 from if_neg (by grind), show mxR (q * m1) (q * m1) = q * m1 from if_neg (by grind)]
      exact if_neg (by grind)
    rw [l, h]
    refine ⟨e2, e1, ?_⟩
    grind
/-- A number is not above two to as many bits as its limbs take. -/
theorem num_bound (q : Rat) : q ≤ p2 (32 * (lim q.num.natAbs).length) ∧ -q ≤ p2 (32 * (lim q.num.natAbs).length) := by
  have h1 := lim_len_pow (a := q.num.natAbs)
  have h2 : ((q.num.natAbs : Nat) : Rat) ≤ p2 (32 * (lim q.num.natAbs).length) := by
    show _ ≤ ((2 ^ (32 * (lim q.num.natAbs).length) : Nat) : Rat)
    refine n_le ?_
    rw [Nat.pow_mul]
    exact Nat.le_of_lt h1
  have h3 : q * (q.den : Rat) = (q.num : Rat) := by
    have h : mkRat q.num q.den * (q.den : Rat) = (q.num : Rat) := by
      rw [Rat.mkRat_eq_div]
      refine Rat.div_mul_cancel ?_
      have : (0 : Rat) < (q.den : Rat) := by exact_mod_cast q.den_pos
      grind
    rwa [Rat.mkRat_self] at h
  have h4 : (1 : Rat) ≤ (q.den : Rat) := by
    have := n_le q.den_pos
    exact this
  have h5 : (q.num : Rat) ≤ ((q.num.natAbs : Nat) : Rat) := by
    have : q.num ≤ (q.num.natAbs : Int) := by omega
    exact Rat.intCast_le_intCast.2 this
  have h6 : -(q.num : Rat) ≤ ((q.num.natAbs : Nat) : Rat) := by
    have : -q.num ≤ (q.num.natAbs : Int) := by omega
    have := Rat.intCast_le_intCast.2 this
    rw [Rat.intCast_neg] at this
    exact this
  generalize p2 (32 * (lim q.num.natAbs).length) = K at *
  generalize ((q.num.natAbs : Nat) : Rat) = N at *
  have hN : 0 ≤ N := by grind
  constructor
  · rcases Rat.le_total (a := 0) (b := q) with g | g
    · have := Rat.mul_le_mul_of_nonneg_left h4 g
      grind
    · grind
  · rcases Rat.le_total (a := 0) (b := q) with g | g
    · grind
    · have := Rat.mul_le_mul_of_nonneg_left h4 (show 0 ≤ -q by grind)
      grind
theorem trim_width {lo hi m1 m2 K : Rat} {P len : Nat} (hK : K = p2 (32 * len)) (h1 : hi - lo ≤ K * (m2 - m1)) (h2 : (m2 - m1) * p2 (P + 8 + 32 * len) ≤ 3) : (upR hi (P + 8) - dnR lo (P + 8)) * p2 P ≤ 1 := by
  have d := (dnR_le lo (P + 8)).2
  have u := (dnR_le (-hi) (P + 8)).2
  have P1 := p2_pos P
  have P2 := p2_pos (P + 8)
  have e1 : p2 (P + 8 + 32 * len) = p2 (P + 8) * K := by rw [p2_add, hK]
  rw [e1] at h2
  have h3 := Rat.mul_le_mul_of_nonneg_right h1 (show 0 ≤ p2 (P + 8) by grind)
  have e2 : p2 (P + 8) = p2 P * 256 := by rw [p2_add]; congr 1
  have h4 : (upR hi (P + 8) - dnR lo (P + 8)) * p2 (P + 8) ≤ 5 := by
    unfold upR
    grind
  rw [e2] at h4
  grind
end Go.Proofs.YtemnjalaincijaaGreat

/- root: Int, whole, Square, Sqrt, Of, in the evaluator. -/
namespace Go.Proofs.YtemnjalaincijaaGreat
set_option linter.unusedSimpArgs false
set_option linter.unusedVariables false
set_option maxRecDepth 8000
open Go.Ev
theorem four_mul_le (x y : Nat) : 4 * (x * y) ≤ (x + y) * (x + y) := by
  rcases Nat.le_total x y with h | h
  · obtain ⟨k, rfl⟩ := Nat.exists_eq_add_of_le h
    have : (x + (x + k)) * (x + (x + k)) = 4 * (x * (x + k)) + k * k := by grind
    omega
  · obtain ⟨k, rfl⟩ := Nat.exists_eq_add_of_le h
    have : (y + k + y) * (y + k + y) = 4 * ((y + k) * y) + k * k := by grind
    omega
/-- A step of the root's loop stays above the root. -/
theorem newton_up {a x : Nat} (hx : 0 < x) : a < ((x + a / x) / 2 + 1) * ((x + a / x) / 2 + 1) := by
  have h1 : a < x * (a / x + 1) := by
    have := Nat.div_add_mod a x
    have := Nat.mod_lt a hx
    rw [Nat.mul_add, Nat.mul_one]; omega
  have h2 := four_mul_le x (a / x + 1)
  generalize a / x = q at *
  have h3 : x + (q + 1) ≤ 2 * ((x + q) / 2 + 1) := by omega
  have h4 := Nat.mul_le_mul h3 h3
  generalize (x + q) / 2 + 1 = m at *
  have h5 : 2 * m * (2 * m) = 4 * (m * m) := by grind
  omega
theorem newton_stop {a x : Nat} (hx : 0 < x) (h : x ≤ (x + a / x) / 2) : x * x ≤ a := by
  have h1 : x ≤ a / x := by omega
  have h2 := Nat.mul_le_mul_left x h1
  have h3 := Nat.mul_div_le a x
  omega
def vN (v : SV) : Nat := match decV v with
  | some xs => wth xs
  | none => 0
theorem vN_lim {x : Nat} (h : (lim x).length ≤ 1073741824) : vN (natV (lim x)) = x := by
  unfold vN
  rw [decV_nat (okL_lim x) h]
  exact wth_lim x
theorem lim_p32 (n : Nat) : lim (4294967296 ^ n) = List.replicate n 0 ++ [1] := by
  have h := lim_unique (xs := List.replicate n 0 ++ [1]) (okL_append.2 ⟨okL_replicate _, by simp [okL]⟩) (.inr ⟨_, 1, rfl, by decide⟩)
  rw [wth_append, wth_replicate, List.length_replicate, Nat.zero_add, show wth [1] = 1 from rfl, Nat.mul_one] at h
  exact h.symm
theorem set_last (n : Nat) : ((List.replicate (n + 1) 0).set n 1 : List Nat) = List.replicate n 0 ++ [1] := by
  rw [List.replicate_succ', List.set_append_right _ _ (by simp), List.length_replicate, Nat.sub_self]
  rfl
set_option maxHeartbeats 1000000 in
theorem root_Int {a : Nat} (h : (lim a).length ≤ 1000) : Go.Ev.Fn CX 212 [natV (lim a)] (natV (lim (rtN a))) := by
  have b := nat_Bits (N := a) (by omega)
  have hb : a < 2 ^ blen a := blen_iff.1 (Nat.le_refl _)
  by_cases h0 : a = 0
  · subst h0
    have e : rtN 0 = 0 := (rtN_eq (a := 0) (r := 0) (by omega) (by omega)).symm
    rw [e, lim_zero]
    rw [lim_zero, show blen 0 = 0 from rfl] at b
    refine Go.Ev.Fn.intro (fn := Tryz.f212) (body := (Tryz.f212).body.get!) (by kernel_rfl) (by kernel_rfl) (by kernel_rfl) (fun _ => rfl) (Nat.le_of_ble_eq_true (by kernel_rfl)) ?_; unfold Tryz.f212; simp only [Option.get!_some]
    repeat (first | (simp only [go_sem, Nat.reduceEqDiff, Nat.reduceAdd, Nat.reduceSub, Nat.reduceMul, Nat.reduceLeDiff, Nat.reduceLT, reduceIte, reduceCtorEq, Nat.succ_ne_zero, elemsC, Int.reduceToNat, Nat.reducePow]) | (simp (disch := (first | omega | (simp only [AL, List.length_map]; omega))) only [AR, AL, ifT, ifF, take_all, List.length_cons, List.length_nil, Int.reduceToNat, Int.reducePow, Nat.reducePow]) | (refine wk_intro (by kernel_rfl) ?_) | (refine vf_of (by first | exact b) ?_))
    rfl
  have hB0 : blen a ≠ 0 := fun e => by rw [e] at hb; omega
  have hBl : blen a ≤ 32000 := by
    obtain ⟨K, hK⟩ : ∃ K : Nat, K = 32000 := ⟨_, rfl⟩
    rw [← hK]
    refine blen_iff.2 (Nat.lt_of_lt_of_le lim_len_pow ?_)
    rw [show (4294967296 : Nat) = 2 ^ 32 from rfl, ← Nat.pow_mul]
    exact Nat.pow_le_pow_right (by omega) (by omega)
  generalize blen a = B at *
  have ha0 : a < 4294967296 ^ (B / 64 + 1) * 4294967296 ^ (B / 64 + 1) := by
    refine Nat.lt_of_lt_of_le hb ?_
    rw [← Nat.pow_add, show (4294967296 : Nat) = 2 ^ 32 from rfl, ← Nat.pow_mul]
    exact Nat.pow_le_pow_right (by omega) (by omega)
  have l0 := lim_p32 (B / 64 + 1)
  have hn : B / 64 + 1 ≤ 501 := by omega
  have tq : (B : Int).tdiv 64 = ((B / 64 : Nat) : Int) := _root_.id rfl
  have sl := set_last (B / 64 + 1)
  rw [← l0] at sl
  have x0pos : 0 < 4294967296 ^ (B / 64 + 1) := Nat.pow_pos (by omega)
  have ll : (lim (4294967296 ^ (B / 64 + 1))).length = B / 64 + 2 := by rw [l0]; simp
  have wp := wth_lim (4294967296 ^ (B / 64 + 1))
  generalize 4294967296 ^ (B / 64 + 1) = x0 at *
  -- one round
  have round : ∀ x, 0 < x → (lim x).length ≤ 1000 → Go.Ev.Fn CX 174 [natV (lim a), natV (lim x)] (.tup [natV (lim (a / x)), natV (lim (a % x)), .bool true]) ∧ Go.Ev.Fn CX 154 [natV (lim x), natV (lim (a / x))] (natV (lim (x + a / x))) ∧
      Go.Ev.Fn CX 179 [natV (lim (x + a / x)), .int .i64 (-1)] (natV (lim ((x + a / x) / 2))) ∧ Go.Ev.Fn CX 205 [natV (lim ((x + a / x) / 2)), natV (lim x)] (.int .i64 (cmpN ((x + a / x) / 2) x)) := by
    intro x hx hl
    have l1 := lim_len_mono (Nat.div_le_self a x)
    have l2 := lim_len_add (a := x) (b := a / x) (L := 1000) (by omega) (by omega)
    have l3 := lim_len_mono (Nat.div_le_self (x + a / x) 2)
    have s := nat_shr (N := x + a / x) (m := 1) (by omega) (by omega) (by omega)
    rw [Nat.pow_one] at s
    exact ⟨nat_DivL (by omega) (by omega) (by omega), nat_AddL (by omega) (by omega), s, nat_CmpL (by omega) (by omega)⟩
  have tr : ∀ x, (lim x).length ≤ 1000 → Go.Ev.Fn CX 172 [natV (lim x)] (natV (lim x)) := by
    intro x hl
    have := nat_Trim (lim x) (okL_lim x) (by omega)
    rwa [wth_lim] at this
  have tn : (((B / 64 : Nat) : Int) + 2).toNat = B / 64 + 2 := by omega
  refine Go.Ev.Fn.intro (fn := Tryz.f212) (body := (Tryz.f212).body.get!) (by kernel_rfl) (by kernel_rfl) (by kernel_rfl) (fun _ => rfl) (Nat.le_of_ble_eq_true (by kernel_rfl)) ?_; unfold Tryz.f212; simp only [Option.get!_some]
  repeat (first | (simp only [go_sem, Nat.reduceEqDiff, Nat.reduceAdd, Nat.reduceSub, Nat.reduceMul, Nat.reduceLeDiff, Nat.reduceLT, reduceIte, reduceCtorEq, Nat.succ_ne_zero, elemsC, Int.reduceToNat, Nat.reducePow, tq, tn]) | (simp (disch := (first | omega | (simp only [AL, List.length_map]; omega))) only [AR, AL, ifT, ifF, take_all, List.length_cons, List.length_nil, Int.reduceToNat, Int.reducePow, Nat.reducePow, tq, tn]) | (refine wk_intro (by kernel_rfl) ?_) | (refine vf_of (by first | exact b) ?_))
  have hstep : ∀ x, 0 < x → a < (x + 1) * (x + 1) → ∀ y, y = (x + a / x) / 2 → ¬ x ≤ y → 0 < y ∧ a < (y + 1) * (y + 1) ∧ y < x := by
    rintro x hx - y rfl hxy
    have := newton_up (a := a) hx
    refine ⟨?_, this, by omega⟩
    rcases Nat.eq_zero_or_pos ((x + a / x) / 2) with e | e
    · rw [e] at this; omega
    · exact e
  refine vp_loop_inv (fun s => s.tmp 0 = .sv (natV (lim a)) ∧ ∃ x : Nat, 0 < x ∧ (lim x).length ≤ 600 ∧ x ≤ x0 ∧ a < (x + 1) * (x + 1) ∧ (s.tmp 3 = .sv (natV (lim x)) ∨ x = x0 ∧ s.tmp 3 = .ref 15 0 1 0 (B / 64 + 2) ∧ s.obj 15 0 = some ((lim x0).map limb)))
    (fun s => match s.tmp 3 with | .sv v => vN v | _ => x0 + 1) ?_ ?_
  · refine ⟨rfl, x0, x0pos, by omega, Nat.le_refl _, by have := Nat.mul_le_mul (show x0 ≤ x0 + 1 by omega) (show x0 ≤ x0 + 1 by omega); omega, .inr ⟨rfl, by first | rfl | (rw [← tn]; rfl), ?_⟩⟩
    refine (?_ : some (List.map limb (List.take (B / 64 + 2 - 1) (List.replicate (B / 64 + 2) 0)) ++ [SV.int IntKind.u32 1] ++ List.map limb (List.drop (B / 64 + 2 - 1 + 1) (List.replicate (B / 64 + 2) 0))) = _)
    rw [l0, List.take_replicate, List.drop_replicate, Nat.min_eq_left (by omega), show B / 64 + 2 - (B / 64 + 2 - 1 + 1) = 0 by omega, show B / 64 + 2 - 1 = B / 64 + 1 by omega, List.map_append, List.replicate_zero, List.map_nil, List.append_nil]
    rfl
  rintro s ⟨i0, x, hx, lx, hxx, hax, i3⟩
  obtain ⟨r1, r2, r3, r4⟩ := round x hx (by omega)
  have hst := hstep x hx hax _ rfl
  have e1 : decide (cmpN ((x + a / x) / 2) x ≥ 0) = decide (x ≤ (x + a / x) / 2) := decide_eq_decide.2 (by unfold cmpN; split <;> (try split) <;> omega)
  have hstop := newton_stop (a := a) (x := x) hx
  have t1 := tr x (by omega)
  have l1 := lim_len_mono (Nat.div_le_self (x + a / x) 2)
  generalize (x + a / x) / 2 = y at *
  generalize x + a / x = u at *
  generalize a / x = q at *
  generalize cmpN y x = z at *
  rcases i3 with i3 | ⟨rfl, i3, o3⟩
  · by_cases hle : x ≤ y
    · rw [decide_eq_true hle] at e1
      obtain rfl := rtN_eq (hstop hle) hax
      repeat (first | (simp only [go_sem, Nat.reduceEqDiff, Nat.reduceAdd, Nat.reduceSub, Nat.reduceMul, Nat.reduceLeDiff, Nat.reduceLT, reduceIte, reduceCtorEq, Nat.succ_ne_zero, elemsC, Int.reduceToNat, Nat.reducePow, i0, i3, e1]) | (simp (disch := (first | omega | (simp only [AL, List.length_map]; omega))) only [AR, AL, ifT, ifF, take_all, List.length_cons, List.length_nil, Int.reduceToNat, Int.reducePow, Nat.reducePow, i0, i3, e1]) | (refine wk_intro (by kernel_rfl) ?_) | (refine vf_of (by first | exact r1 | exact r2 | exact r3 | exact r4 | exact t1) ?_))
    · rw [decide_eq_false hle] at e1
      obtain ⟨y1, y2, y3⟩ := hst hle
      repeat (first | (simp only [go_sem, Nat.reduceEqDiff, Nat.reduceAdd, Nat.reduceSub, Nat.reduceMul, Nat.reduceLeDiff, Nat.reduceLT, reduceIte, reduceCtorEq, Nat.succ_ne_zero, elemsC, Int.reduceToNat, Nat.reducePow, i0, i3, e1]) | (simp (disch := (first | omega | (simp only [AL, List.length_map]; omega))) only [AR, AL, ifT, ifF, take_all, List.length_cons, List.length_nil, Int.reduceToNat, Int.reducePow, Nat.reducePow, i0, i3, e1]) | (refine wk_intro (by kernel_rfl) ?_) | (refine vf_of (by first | exact r1 | exact r2 | exact r3 | exact r4) ?_))
      exact ⟨⟨y, y1, Nat.le_trans (lim_len_mono (Nat.le_of_lt y3)) lx, by omega, y2, .inl rfl⟩, by rw [vN_lim (by have := lim_len_mono (Nat.le_of_lt y3); omega), vN_lim (by omega)]; exact y3⟩
  · have hle : ¬ x ≤ y := fun g => by have := hstop g; have := ha0; omega
    rw [decide_eq_false hle] at e1
    obtain ⟨y1, y2, y3⟩ := hst hle
    have f1 : Go.Ev.Fn CX 174 [natV (lim a), .sl (B / 64 + 2) ((lim x).map limb)] (.tup [natV (lim q), natV (lim (a % x)), .bool true]) := by rw [← ll]; exact r1
    have f2 : Go.Ev.Fn CX 154 [.sl (B / 64 + 2) ((lim x).map limb), natV (lim q)] (natV (lim u)) := by rw [← ll]; exact r2
    have f4 : Go.Ev.Fn CX 205 [natV (lim y), .sl (B / 64 + 2) ((lim x).map limb)] (.int .i64 z) := by rw [← ll]; exact r4
    have hlm : ((lim x).map limb).length = B / 64 + 2 := by rw [List.length_map, ll]
    have htk : ((lim x).map limb).take (B / 64 + 2) = (lim x).map limb := List.take_of_length_le (by omega)
    generalize ((lim x).map limb) = cs at *
    repeat (first | (simp only [go_sem, Nat.reduceEqDiff, Nat.reduceAdd, Nat.reduceSub, Nat.reduceMul, Nat.reduceLeDiff, Nat.reduceLT, reduceIte, reduceCtorEq, Nat.succ_ne_zero, elemsC, Int.reduceToNat, Nat.reducePow, i0, i3, o3, htk, hlm, List.drop_zero, N0, Nat.mul_one, e1]) | (simp (disch := (first | omega | (simp only [AL, List.length_map]; omega))) only [AR, AL, ifT, ifF, take_all, List.length_cons, List.length_nil, Int.reduceToNat, Int.reducePow, Nat.reducePow, i0, i3, o3, htk, hlm, List.drop_zero, N0, Nat.mul_one, e1]) | (refine wk_intro (by kernel_rfl) ?_) | (refine vf_of (by first | exact f1 | exact f2 | exact r3 | exact f4) ?_))
    exact ⟨⟨y, y1, Nat.le_trans (lim_len_mono (Nat.le_of_lt y3)) lx, by omega, y2, .inl rfl⟩, by rw [vN_lim (by have := lim_len_mono (Nat.le_of_lt y3); omega)]; omega⟩
theorem root_whole {a : Nat} (h : (lim a).length ≤ 1000) : Go.Ev.Fn CX 226 [natV (lim a)] (.tup [natV (lim (rtN a)), .bool (decide (rtN a * rtN a = a))]) := by
  have r := root_Int h
  have l := lim_len_mono (rtN_self a)
  have m := nat_MulL (N := rtN a) (D := rtN a) (by omega) (by omega)
  have l2 := lim_len_mono (rtN_le a)
  have c := nat_CmpL (N := rtN a * rtN a) (D := a) (by omega) (by omega)
  have e : (cmpN (rtN a * rtN a) a == 0) = decide (rtN a * rtN a = a) := by
    rw [show (cmpN (rtN a * rtN a) a == 0) = decide (cmpN (rtN a * rtN a) a = 0) from by by_cases h : cmpN (rtN a * rtN a) a = 0 <;> simp [h]]
    exact decide_eq_decide.2 (by unfold cmpN; split <;> (try split) <;> omega)
  rw [← e]
  generalize cmpN (rtN a * rtN a) a = z at *
  generalize rtN a * rtN a = y at *
  generalize rtN a = x at *
  refine Go.Ev.Fn.intro (fn := Tryz.f226) (body := (Tryz.f226).body.get!) (by kernel_rfl) (by kernel_rfl) (by kernel_rfl) (fun _ => rfl) (Nat.le_of_ble_eq_true (by kernel_rfl)) ?_; unfold Tryz.f226; simp only [Option.get!_some]
  repeat (first | (simp only [go_sem, Nat.reduceEqDiff, Nat.reduceAdd, Nat.reduceSub, Nat.reduceMul, Nat.reduceLeDiff, Nat.reduceLT, reduceIte, reduceCtorEq, Nat.succ_ne_zero, elemsC, Int.reduceToNat, Nat.reducePow]) | (simp (disch := (first | omega | (simp only [AL, List.length_map]; omega))) only [AR, AL, ifT, ifF, take_all, List.length_cons, List.length_nil, Int.reduceToNat, Int.reducePow, Nat.reducePow]) | (refine wk_intro (by kernel_rfl) ?_) | (refine vf_of (by first | exact r | exact m | exact c) ?_))
theorem szR_nat {n d L : Nat} (hn : (lim n).length ≤ L) (hd : (lim d).length ≤ L) (hL : 1 ≤ L) : szR (mkRat (n : Int) d) L := szR_mk (s := false) hn hd hL
theorem natAbs_num {q : Rat} (h : 0 ≤ q) : (q.num.natAbs : Int) = q.num := Int.natAbs_of_nonneg (Rat.num_nonneg.2 h)
theorem mk_mulP (a : Int) {b : Nat} (hb : 0 < b) : mkRat a b * (b : Rat) = (a : Rat) := by
  rw [Rat.mkRat_eq_div]
  refine Rat.div_mul_cancel ?_
  have : (0 : Rat) < (b : Rat) := by exact_mod_cast hb
  grind
theorem num_den (q : Rat) : q * (q.den : Rat) = (q.num : Rat) := by
  have h := mk_mulP q.num q.den_pos
  rwa [Rat.mkRat_self] at h
theorem root_Square {v : SV} {q : Rat} {L : Nat} (hv : RatA v q L) (hq : 0 ≤ q) (hL1 : 1 ≤ L) (hL : L ≤ 1000) :
    Go.Ev.Fn CX 211 [v] (if rtN q.num.natAbs * rtN q.num.natAbs = q.num.natAbs ∧ rtN q.den * rtN q.den = q.den then .tup [rv (mkRat (rtN q.num.natAbs : Int) (rtN q.den)), .bool true] else .tup [rv 0, .bool false]) := by
  have n1 := rat_Norm hv (by omega)
  obtain ⟨z1, z2⟩ := szR_of hv hL1
  have w1 := root_whole (a := q.num.natAbs) (by omega)
  have w2 := root_whole (a := q.den) (by omega)
  have l1 := lim_len_mono (rtN_self q.num.natAbs)
  have l2 := lim_len_mono (rtN_self q.den)
  have o := rat_OfL (s := false) (n := rtN q.num.natAbs) (d := rtN q.den) (by omega) (by omega)
  rw [show sgn false (rtN q.num.natAbs) = (rtN q.num.natAbs : Int) from rfl] at o
  have r0 := rat_Int 0 (by omega)
  rw [show ((0 : Int) : Rat) = 0 from rfl] at r0
  have hs : decide (q.num < 0) = false := decide_eq_false (by have := Rat.num_nonneg.2 hq; omega)
  obtain ⟨s, n, d, rfl, -⟩ := hv
  generalize mkRat (rtN q.num.natAbs : Int) (rtN q.den) = r at *
  by_cases h1 : rtN q.num.natAbs * rtN q.num.natAbs = q.num.natAbs
  · rw [decide_eq_true h1] at w1
    by_cases h2 : rtN q.den * rtN q.den = q.den
    · rw [decide_eq_true h2] at w2
      rw [if_pos ⟨h1, h2⟩]
      clear h1 h2
      generalize rtN q.num.natAbs = x at *
      generalize rtN q.den = y at *
      refine Go.Ev.Fn.intro (fn := Tryz.f211) (body := (Tryz.f211).body.get!) (by kernel_rfl) (by kernel_rfl) (by kernel_rfl) (fun _ => rfl) (Nat.le_of_ble_eq_true (by kernel_rfl)) ?_; unfold Tryz.f211; simp only [Option.get!_some]
      repeat (first | (simp only [go_sem, Nat.reduceEqDiff, Nat.reduceAdd, Nat.reduceSub, Nat.reduceMul, Nat.reduceLeDiff, Nat.reduceLT, reduceIte, reduceCtorEq, Nat.succ_ne_zero, elemsC, Int.reduceToNat, Nat.reducePow, hs, Bool.not_true]) | (simp (disch := (first | omega | (simp only [AL, List.length_map]; omega))) only [AR, AL, ifT, ifF, take_all, List.length_cons, List.length_nil, Int.reduceToNat, Int.reducePow, Nat.reducePow, hs, Bool.not_true]) | (refine wk_intro (by kernel_rfl) ?_) | (refine vf_of (by first | exact n1 | exact w1 | exact w2 | exact o) ?_))
    · rw [decide_eq_false h2] at w2
      rw [if_neg (fun h => h2 h.2)]
      clear h1 h2
      generalize rtN q.num.natAbs = x at *
      generalize rtN q.den = y at *
      refine Go.Ev.Fn.intro (fn := Tryz.f211) (body := (Tryz.f211).body.get!) (by kernel_rfl) (by kernel_rfl) (by kernel_rfl) (fun _ => rfl) (Nat.le_of_ble_eq_true (by kernel_rfl)) ?_; unfold Tryz.f211; simp only [Option.get!_some]
      repeat (first | (simp only [go_sem, Nat.reduceEqDiff, Nat.reduceAdd, Nat.reduceSub, Nat.reduceMul, Nat.reduceLeDiff, Nat.reduceLT, reduceIte, reduceCtorEq, Nat.succ_ne_zero, elemsC, Int.reduceToNat, Nat.reducePow, hs, Bool.not_true, Bool.not_false]) | (simp (disch := (first | omega | (simp only [AL, List.length_map]; omega))) only [AR, AL, ifT, ifF, take_all, List.length_cons, List.length_nil, Int.reduceToNat, Int.reducePow, Nat.reducePow, hs, Bool.not_true, Bool.not_false]) | (refine wk_intro (by kernel_rfl) ?_) | (refine vf_of (by first | exact n1 | exact w1 | exact w2 | exact r0) ?_))
  · rw [decide_eq_false h1] at w1
    rw [if_neg (fun h => h1 h.1)]
    clear h1
    generalize rtN q.num.natAbs = x at *
    generalize hz : decide (rtN q.den * rtN q.den = q.den) = z at *
    generalize rtN q.den = y at *
    refine Go.Ev.Fn.intro (fn := Tryz.f211) (body := (Tryz.f211).body.get!) (by kernel_rfl) (by kernel_rfl) (by kernel_rfl) (fun _ => rfl) (Nat.le_of_ble_eq_true (by kernel_rfl)) ?_; unfold Tryz.f211; simp only [Option.get!_some]
    repeat (first | (simp only [go_sem, Nat.reduceEqDiff, Nat.reduceAdd, Nat.reduceSub, Nat.reduceMul, Nat.reduceLeDiff, Nat.reduceLT, reduceIte, reduceCtorEq, Nat.succ_ne_zero, elemsC, Int.reduceToNat, Nat.reducePow, hs, Bool.not_true, Bool.not_false]) | (simp (disch := (first | omega | (simp only [AL, List.length_map]; omega))) only [AR, AL, ifT, ifF, take_all, List.length_cons, List.length_nil, Int.reduceToNat, Int.reducePow, Nat.reducePow, hs, Bool.not_true, Bool.not_false]) | (refine wk_intro (by kernel_rfl) ?_) | (refine vf_of (by first | exact n1 | exact w1 | exact w2 | exact r0) ?_))
theorem nn_mul {a b : Nat} : ((a * b : Nat) : Rat) = (a : Rat) * (b : Rat) := by exact_mod_cast rfl
theorem nat_le_rat {a b : Nat} (h : a ≤ b) : (a : Rat) ≤ (b : Rat) := by exact_mod_cast h
theorem root_Sqrt {v : SV} {q : Rat} {L p : Nat} (hv : RatA v q L) (hq : 0 ≤ q) (hL1 : 1 ≤ L) (hL : L ≤ 300) (hp : p ≤ 512) :
    ∃ lo hi : Rat, Go.Ev.Fn CX 181 [v, .int .i64 (p : Int)] (.tup [ballR lo hi, .bool true]) ∧ 0 ≤ lo ∧ lo ≤ hi ∧ lo * lo ≤ q ∧ q ≤ hi * hi ∧ (hi - lo) * p2 p ≤ 1 ∧ szR lo (L + 40) ∧ szR hi (L + 40) := by
  have n1 := rat_Norm hv (by omega)
  obtain ⟨z1, z2⟩ := szR_of hv hL1
  have sq := root_Square (RatA_rv ⟨z1, z2⟩) hq hL1 (by omega)
  have l1 := lim_len_mono (rtN_self q.num.natAbs)
  have l2 := lim_len_mono (rtN_self q.den)
  have hs : decide (q.num < 0) = false := decide_eq_false (by have := Rat.num_nonneg.2 hq; omega)
  have e1 : (if (0 : Int) > (p : Int) then (0 : Int) else (p : Int)) = (p : Int) := if_neg (by omega)
  have e2 : (if (512 : Int) < (p : Int) then (512 : Int) else (p : Int)) = (p : Int) := if_neg (by omega)
  have qn := num_den q
  have qa : ((q.num.natAbs : Nat) : Rat) = (q.num : Rat) := by
    rw [← natAbs_num hq]; rfl
  have D := q.den_pos
  have DR : (0 : Rat) < (q.den : Rat) := by exact_mod_cast D
  have erv : rv q = ratV false (lim q.num.natAbs) (lim q.den) := by show ratV (decide (q.num < 0)) _ _ = _; rw [hs]
  rw [erv] at n1 sq
  by_cases h : rtN q.num.natAbs * rtN q.num.natAbs = q.num.natAbs ∧ rtN q.den * rtN q.den = q.den
  · rw [if_pos h] at sq
    have hd0 : 0 < rtN q.den := by
      rcases Nat.eq_zero_or_pos (rtN q.den) with e | e
      · have := h.2; rw [e] at this; omega
      · exact e
    have mm := mk_mulP (rtN q.num.natAbs : Int) hd0
    have YR : (0 : Rat) < (rtN q.den : Rat) := by exact_mod_cast hd0
    have x2 : ((rtN q.num.natAbs : Nat) : Rat) * ((rtN q.num.natAbs : Nat) : Rat) = (q.num : Rat) := by rw [← nn_mul, h.1, qa]
    have y2 : ((rtN q.den : Nat) : Rat) * ((rtN q.den : Nat) : Rat) = (q.den : Rat) := by rw [← nn_mul, h.2]
    have x0 := nat_nonneg (rtN q.num.natAbs)
    have mm' : mkRat (rtN q.num.natAbs : Int) (rtN q.den) * (rtN q.den : Rat) = ((rtN q.num.natAbs : Nat) : Rat) := mm
    have r0 : (0 : Rat) ≤ mkRat (rtN q.num.natAbs : Int) (rtN q.den) := le_by YR (by rw [mm', Rat.zero_mul]; exact x0)
    have rr : mkRat (rtN q.num.natAbs : Int) (rtN q.den) * mkRat (rtN q.num.natAbs : Int) (rtN q.den) = q := by
      generalize mkRat (rtN q.num.natAbs : Int) (rtN q.den) = r at *
      generalize ((rtN q.num.natAbs : Nat) : Rat) = X at *
      generalize ((rtN q.den : Nat) : Rat) = Y at *
      have e : (r * r - q) * (Y * Y) = 0 := by
        have e3 : (r * r - q) * (Y * Y) = (r * Y) * (r * Y) - q * (Y * Y) := by grind
        rw [e3, mm', x2, y2, qn, Rat.sub_self]
      rcases Rat.mul_eq_zero.1 e with g | g
      · grind
      · rw [y2] at g; grind
    have zz : szR (mkRat (rtN q.num.natAbs : Int) (rtN q.den)) L := szR_nat (by omega) (by omega) hL1
    have bo := ball_Of (RatA_rv zz) (by omega)
    refine ⟨_, _, ?_, r0, Rat.le_refl, by rw [rr]; exact Rat.le_refl, by rw [rr]; exact Rat.le_refl, by rw [Rat.sub_self, Rat.zero_mul]; decide, szR_mono zz (by omega), szR_mono zz (by omega)⟩
    clear rr r0 zz mm
    obtain ⟨s, n, d, rfl, -⟩ := hv
    generalize mkRat (rtN q.num.natAbs : Int) (rtN q.den) = r at *
    refine Go.Ev.Fn.intro (fn := Tryz.f181) (body := (Tryz.f181).body.get!) (by kernel_rfl) (by kernel_rfl) (by kernel_rfl) (fun _ => rfl) (Nat.le_of_ble_eq_true (by kernel_rfl)) ?_; unfold Tryz.f181; simp only [Option.get!_some]
    repeat (first | (simp only [go_sem, Nat.reduceEqDiff, Nat.reduceAdd, Nat.reduceSub, Nat.reduceMul, Nat.reduceLeDiff, Nat.reduceLT, reduceIte, reduceCtorEq, Nat.succ_ne_zero, elemsC, Int.reduceToNat, Nat.reducePow, hs, e1, e2]) | (simp (disch := (first | omega | (simp only [AL, List.length_map]; omega))) only [AR, AL, ifT, ifF, take_all, List.length_cons, List.length_nil, Int.reduceToNat, Int.reducePow, Nat.reducePow, hs, e1, e2]) | (refine wk_intro (by kernel_rfl) ?_) | (refine vp_draw (id := 8) (l := [32, 35, 37]) (by kernel_rfl) ?_) | (refine vf_of (by first | exact n1 | exact sq | exact bo) ?_))
  · rw [if_neg h] at sq
    clear h
    have s1 := nat_shl (N := q.num.natAbs) (m := 2 * p) (by omega) (by omega)
    have l3 := lim_len_shl (a := q.num.natAbs) (n := 2 * p)
    have dv := nat_DivL (N := q.num.natAbs * 2 ^ (2 * p)) (D := q.den) (by omega) (by omega) (by omega)
    have l4 := lim_len_mono (Nat.div_le_self (q.num.natAbs * 2 ^ (2 * p)) q.den)
    have rt := root_Int (a := q.num.natAbs * 2 ^ (2 * p) / q.den) (by omega)
    have l5 := lim_len_mono (rtN_self (q.num.natAbs * 2 ^ (2 * p) / q.den))
    have o1 := nat_Of 1 (by omega)
    have l1' := lim_len1
    have s2 := nat_shl (N := 1) (m := p) (by omega) (by omega)
    have l6 := lim_len_shl (a := 1) (n := p)
    rw [Nat.one_mul] at s2 l6
    have l7 := lim_len_add (a := rtN (q.num.natAbs * 2 ^ (2 * p) / q.den)) (b := 1) (L := L + 34) (by omega) (by omega)
    have ad := nat_AddL (N := rtN (q.num.natAbs * 2 ^ (2 * p) / q.den)) (D := 1) (by omega) (by omega)
    have f1 := rat_OfL (s := false) (n := rtN (q.num.natAbs * 2 ^ (2 * p) / q.den)) (d := 2 ^ p) (by omega) (by omega)
    have f2 := rat_OfL (s := false) (n := rtN (q.num.natAbs * 2 ^ (2 * p) / q.den) + 1) (d := 2 ^ p) (by omega) (by omega)
    have P : 0 < 2 ^ p := Nat.pow_pos (by omega)
    have g1 := rtN_le (q.num.natAbs * 2 ^ (2 * p) / q.den)
    have g2 := lt_rtN (q.num.natAbs * 2 ^ (2 * p) / q.den)
    have m1 := mk_mulP (rtN (q.num.natAbs * 2 ^ (2 * p) / q.den) : Int) P
    have m2 := mk_mulP ((rtN (q.num.natAbs * 2 ^ (2 * p) / q.den) + 1 : Nat) : Int) P
    refine ⟨_, _, ?_, ?_, ?_, ?_, ?_, ?_, szR_nat (n := rtN (q.num.natAbs * 2 ^ (2 * p) / q.den)) (d := 2 ^ p) (by omega) (by omega) (by omega), szR_nat (n := rtN (q.num.natAbs * 2 ^ (2 * p) / q.den) + 1) (d := 2 ^ p) (by omega) (by omega) (by omega)⟩
    · rw [show sgn false (rtN (q.num.natAbs * 2 ^ (2 * p) / q.den)) = (rtN (q.num.natAbs * 2 ^ (2 * p) / q.den) : Int) from rfl] at f1
      rw [show sgn false (rtN (q.num.natAbs * 2 ^ (2 * p) / q.den) + 1) = ((rtN (q.num.natAbs * 2 ^ (2 * p) / q.den) + 1 : Nat) : Int) from rfl] at f2
      clear g1 g2 m1 m2
      rw [show ((2 * p : Nat) : Int) = 2 * (p : Int) by omega] at s1
      obtain ⟨s, n, d, rfl, -⟩ := hv
      generalize mkRat (rtN (q.num.natAbs * 2 ^ (2 * p) / q.den) : Int) (2 ^ p) = r1 at *
      generalize mkRat ((rtN (q.num.natAbs * 2 ^ (2 * p) / q.den) + 1 : Nat) : Int) (2 ^ p) = r2 at *
      generalize rtN (q.num.natAbs * 2 ^ (2 * p) / q.den) + 1 = R1 at *
      generalize rtN (q.num.natAbs * 2 ^ (2 * p) / q.den) = R at *
      generalize q.num.natAbs * 2 ^ (2 * p) / q.den = u at *
      generalize q.num.natAbs * 2 ^ (2 * p) % q.den = u' at *
      generalize q.num.natAbs * 2 ^ (2 * p) = t at *
      generalize 2 ^ p = P' at *
      refine Go.Ev.Fn.intro (fn := Tryz.f181) (body := (Tryz.f181).body.get!) (by kernel_rfl) (by kernel_rfl) (by kernel_rfl) (fun _ => rfl) (Nat.le_of_ble_eq_true (by kernel_rfl)) ?_; unfold Tryz.f181; simp only [Option.get!_some]
      repeat (first | (simp only [go_sem, Nat.reduceEqDiff, Nat.reduceAdd, Nat.reduceSub, Nat.reduceMul, Nat.reduceLeDiff, Nat.reduceLT, reduceIte, reduceCtorEq, Nat.succ_ne_zero, elemsC, Int.reduceToNat, Nat.reducePow, hs, e1, e2]) | (simp (disch := (first | omega | (simp only [AL, List.length_map]; omega))) only [AR, AL, ifT, ifF, take_all, List.length_cons, List.length_nil, Int.reduceToNat, Int.reducePow, Nat.reducePow, hs, e1, e2]) | (refine wk_intro (by kernel_rfl) ?_) | (refine vp_draw (id := 8) (l := [32, 35, 37]) (by kernel_rfl) ?_) | (refine vf_of (by first | exact n1 | exact sq | exact s1 | exact dv | exact rt | exact o1 | exact s2 | exact f1 | exact ad | exact f2) ?_))
    all_goals
      have m1' : mkRat (rtN (q.num.natAbs * 2 ^ (2 * p) / q.den) : Int) (2 ^ p) * p2 p = ((rtN (q.num.natAbs * 2 ^ (2 * p) / q.den) : Nat) : Rat) := m1
      have m2' : mkRat ((rtN (q.num.natAbs * 2 ^ (2 * p) / q.den) + 1 : Nat) : Int) (2 ^ p) * p2 p = ((rtN (q.num.natAbs * 2 ^ (2 * p) / q.den) + 1 : Nat) : Rat) := m2
      have PR := p2_pos p
      have eS : ((rtN (q.num.natAbs * 2 ^ (2 * p) / q.den) + 1 : Nat) : Rat) = ((rtN (q.num.natAbs * 2 ^ (2 * p) / q.den) : Nat) : Rat) + 1 := by exact_mod_cast rfl
      have R0 := nat_nonneg (rtN (q.num.natAbs * 2 ^ (2 * p) / q.den))
    · exact le_by PR (by rw [Rat.zero_mul]; exact Rat.le_trans R0 (by rw [← m1']; exact Rat.le_refl))
    · refine le_by PR ?_
      show mkRat (rtN (q.num.natAbs * 2 ^ (2 * p) / q.den) : Int) (2 ^ p) * p2 p ≤ mkRat ((rtN (q.num.natAbs * 2 ^ (2 * p) / q.den) + 1 : Nat) : Int) (2 ^ p) * p2 p
      rw [m1', m2', eS]
      grind
    · show mkRat (rtN (q.num.natAbs * 2 ^ (2 * p) / q.den) : Int) (2 ^ p) * mkRat (rtN (q.num.natAbs * 2 ^ (2 * p) / q.den) : Int) (2 ^ p) ≤ q
      have a1 := nat_le_rat (Nat.mul_le_mul_right q.den g1)
      have a2 := nat_le_rat (Nat.div_mul_le_self (q.num.natAbs * 2 ^ (2 * p)) q.den)
      have a3 := Rat.le_trans a1 a2
      rw [show 2 ^ (2 * p) = 2 ^ p * 2 ^ p by rw [← Nat.pow_add]; congr 1; omega] at *
      rw [nn_mul, nn_mul, nn_mul, nn_mul, qa] at a3
      generalize mkRat (rtN (q.num.natAbs * (2 ^ p * 2 ^ p) / q.den) : Int) (2 ^ p) = r at *
      generalize ((rtN (q.num.natAbs * (2 ^ p * 2 ^ p) / q.den) : Nat) : Rat) = R at *
      have PP : (0 : Rat) < p2 p * p2 p * (q.den : Rat) := Rat.mul_pos (Rat.mul_pos PR PR) DR
      refine le_by PP ?_
      have e1 : r * r * (p2 p * p2 p * (q.den : Rat)) = (r * p2 p) * (r * p2 p) * (q.den : Rat) := by grind
      have e2 : q * (p2 p * p2 p * (q.den : Rat)) = q * (q.den : Rat) * (p2 p * p2 p) := by grind
      rw [e1, e2, m1', qn]
      exact a3
    · show q ≤ mkRat ((rtN (q.num.natAbs * 2 ^ (2 * p) / q.den) + 1 : Nat) : Int) (2 ^ p) * mkRat ((rtN (q.num.natAbs * 2 ^ (2 * p) / q.den) + 1 : Nat) : Int) (2 ^ p)
      have a1 := nat_le_rat (Nat.mul_le_mul_right q.den (show q.num.natAbs * 2 ^ (2 * p) / q.den + 1 ≤ _ from g2))
      have a2 := le_floor (a := q.num.natAbs * 2 ^ (2 * p)) (d := q.den) D
      rw [← nn_mul] at a2
      have a3 := Rat.le_trans a2 a1
      rw [show 2 ^ (2 * p) = 2 ^ p * 2 ^ p by rw [← Nat.pow_add]; congr 1; omega] at *
      rw [nn_mul, nn_mul, nn_mul, nn_mul, qa] at a3
      generalize mkRat ((rtN (q.num.natAbs * (2 ^ p * 2 ^ p) / q.den) + 1 : Nat) : Int) (2 ^ p) = r at *
      generalize ((rtN (q.num.natAbs * (2 ^ p * 2 ^ p) / q.den) + 1 : Nat) : Rat) = R at *
      have PP : (0 : Rat) < p2 p * p2 p * (q.den : Rat) := Rat.mul_pos (Rat.mul_pos PR PR) DR
      refine le_by PP ?_
      have e1 : r * r * (p2 p * p2 p * (q.den : Rat)) = (r * p2 p) * (r * p2 p) * (q.den : Rat) := by grind
      have e2 : q * (p2 p * p2 p * (q.den : Rat)) = q * (q.den : Rat) * (p2 p * p2 p) := by grind
      rw [e1, e2, m2', qn]
      exact a3
    · show (mkRat ((rtN (q.num.natAbs * 2 ^ (2 * p) / q.den) + 1 : Nat) : Int) (2 ^ p) - mkRat (rtN (q.num.natAbs * 2 ^ (2 * p) / q.den) : Int) (2 ^ p)) * p2 p ≤ 1
      have e : ∀ a b c : Rat, (a - b) * c = a * c - b * c := by intro a b c; grind
      rw [e, m1', m2', eS]
      grind
theorem root_Of {A B : Rat} {L p : Nat} (hA : 0 ≤ A) (hB : 0 ≤ B) (zA : szR A L) (zB : szR B L) (hL1 : 1 ≤ L) (hL : L ≤ 300) (hp : p ≤ 512) :
    ∃ lo lo' hi' hi : Rat, Go.Ev.Fn CX 147 [ballR A B, .int .i64 (p : Int)] (.tup [ballR lo hi, .bool true]) ∧ 0 ≤ lo ∧ lo ≤ lo' ∧ lo * lo ≤ A ∧ A ≤ lo' * lo' ∧ (lo' - lo) * p2 p ≤ 1 ∧
      0 ≤ hi' ∧ hi' ≤ hi ∧ hi' * hi' ≤ B ∧ B ≤ hi * hi ∧ (hi - hi') * p2 p ≤ 1 ∧ szR lo (L + 40) ∧ szR hi (L + 40) := by
  obtain ⟨a1, a2, f, g1, g2, g3, g4, g5, g6, g7⟩ := root_Sqrt (RatA_rv zA) hA hL1 hL hp
  obtain ⟨b1, b2, f', k1, k2, k3, k4, k5, k6, k7⟩ := root_Sqrt (RatA_rv zB) hB hL1 hL hp
  refine ⟨a1, a2, b1, b2, ?_, g1, g2, g3, g4, g5, k1, k2, k3, k4, k5, g6, k7⟩
  clear g1 g2 g3 g4 g5 k1 k2 k3 k4 k5
  refine Go.Ev.Fn.intro (fn := Tryz.f147) (body := (Tryz.f147).body.get!) (by kernel_rfl) (by kernel_rfl) (by kernel_rfl) (fun _ => rfl) (Nat.le_of_ble_eq_true (by kernel_rfl)) ?_; unfold Tryz.f147; simp only [Option.get!_some]
  repeat (first | (simp only [go_sem, Nat.reduceEqDiff, Nat.reduceAdd, Nat.reduceSub, Nat.reduceMul, Nat.reduceLeDiff, Nat.reduceLT, reduceIte, reduceCtorEq, Nat.succ_ne_zero, elemsC, Int.reduceToNat, Nat.reducePow, Bool.not_true]) | (simp (disch := (first | omega | (simp only [AL, List.length_map]; omega))) only [AR, AL, ifT, ifF, take_all, List.length_cons, List.length_nil, Int.reduceToNat, Int.reducePow, Nat.reducePow, Bool.not_true]) | (refine wk_intro (by kernel_rfl) ?_) | (refine vf_of (by first | exact f | exact f') ?_))
end Go.Proofs.YtemnjalaincijaaGreat

/- gam.Ball, in the evaluator. -/
namespace Go.Proofs.YtemnjalaincijaaGreat
set_option linter.unusedSimpArgs false
set_option linter.unusedVariables false
set_option maxRecDepth 8000
open Go.Ev
theorem mk_p2 (a p : Nat) : mkRat (a : Int) (2 ^ p) * p2 p = (a : Rat) := mk_mulP (a : Int) (Nat.pow_pos (by omega))
theorem many_pi {d : Nat} (h1 : 8 ≤ d) (h2 : d < 225) : ∃ m1 m2 : Rat, Go.Ev.Fn CX 149 [.int .i64 (d : Int)] (ballR m1 m2) ∧ m1 ≤ SQ * SQ ∧ SQ * SQ ≤ m2 ∧ (m2 - m1) * p2 d ≤ 1 ∧ 1 ≤ m1 ∧ szR m1 40 ∧ szR m2 40 := by
  obtain ⟨a, f, g1, g2⟩ := arcs_Pi h1 h2
  have P := p2_pos d
  have e1 := mk_p2 a d
  have e2 := mk_p2 (a + 1) d
  have k1 := sq_lo (by omega) g1
  have k2 := sq_hi (a := a + 1) (by omega) g2
  have k3 := sq_ge (by omega) g2
  have hA : a ≤ 2 ^ (d + 4) := by
    have x1 : rootPi * rootPi ≤ 2 ^ 804 := by decide +kernel
    have x2 : 2 ^ 804 = 2 ^ (d + 4) * 2 ^ (800 - d) := by rw [← Nat.pow_add]; congr 1; omega
    rw [x2] at x1
    exact Nat.le_of_mul_le_mul_right (Nat.le_trans g1 x1) (Nat.pow_pos (by omega))
  have hp : 2 ^ d ≤ 2 ^ (d + 4) := Nat.pow_le_pow_right (by omega) (by omega)
  have hB : a + 1 ≤ 2 ^ (d + 5) := by
    have : 2 ^ (d + 5) = 2 ^ (d + 4) * 2 := by rw [← Nat.pow_succ]
    have := Nat.pow_pos (a := 2) (n := d + 4) (by omega)
    omega
  have lp := lim_len_p2 hp (by omega)
  have la := lim_len_p2 hA (by omega)
  have lb := lim_len_p2 hB (by omega)
  refine ⟨_, _, f, le_by P (by rw [e1]; exact k1), le_by P (by rw [e2]; exact k2), ?_, le_by P (by rw [e1, Rat.one_mul]; exact n_le k3), szR_nat la lp (by omega), szR_nat lb lp (by omega)⟩
  have e : ∀ a b c : Rat, (a - b) * c = a * c - b * c := by intro a b c; grind
  rw [e, e1, e2]
  have : ((a + 1 : Nat) : Rat) = (a : Rat) + 1 := by exact_mod_cast rfl
  rw [this]
  grind
theorem many_root {m1 m2 : Rat} {d : Nat} (hd : d < 225) (h1 : m1 ≤ SQ * SQ) (h2 : SQ * SQ ≤ m2) (h3 : (m2 - m1) * p2 d ≤ 1) (h4 : 1 ≤ m1) (z1 : szR m1 40) (z2 : szR m2 40) :
    ∃ lo hi : Rat, Go.Ev.Fn CX 147 [ballR m1 m2, .int .i64 (d : Int)] (.tup [ballR lo hi, .bool true]) ∧ lo ≤ SQ ∧ SQ ≤ hi ∧ (hi - lo) * p2 d ≤ 3 ∧ szR lo 80 ∧ szR hi 80 := by
  have h5 : m1 ≤ m2 := Rat.le_trans h1 h2
  obtain ⟨lo, lo', hi', hi, f, g1, g2, g3, g4, g5, k1, k2, k3, k4, k5, y1, y2⟩ := root_Of (L := 40) (p := d) (A := m1) (B := m2) (by grind) (by grind) z1 z2 (by omega) (by omega) (by omega)
  refine ⟨lo, hi, f, sq_mono g1 SQ_nn (Rat.le_trans g3 h1), sq_mono SQ_nn (Rat.le_trans k1 k2) (Rat.le_trans h2 k4), root_width (p2_pos d) g2 g4 g5 g1 k1 k3 k5 h4 h3 h5, y1, y2⟩
section
variable {v : SV} {q : Rat} {roots pI : Int} {P : Nat}
end
end Go.Proofs.YtemnjalaincijaaGreat
