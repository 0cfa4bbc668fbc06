/- Part 10 of the proof: the evaluator, contracts of functions and their plain laws (joined by program). No condition. -/
import Derived.Test.YtdnmhnjblgkjaaaGreatPart9
/- disc.tries, sum, BinomCdf, in the evaluator. -/
namespace Go.Proofs.YtdnmhnjblgkjaaaGreat
set_option linter.unusedSimpArgs false
set_option linter.unusedVariables false
set_option maxRecDepth 8000
open Go.Ev
/-- A row of numbers. -/
abbrev rowsC (g : Nat → Nat) (i : Nat) : List SV := (List.range i).map fun j => natV (lim (g j))
theorem rows_len (g : Nat → Nat) (i : Nat) : (rowsC g i).length = i := by simp [rowsC]
theorem rows_at (g : Nat → Nat) {i j : Nat} (h : j < i) : ((rowsC g i).drop j).head? = some (natV (lim (g j))) := by
  rw [List.head?_drop]
  simp [rowsC, h]
theorem rows_snoc (g : Nat → Nat) (i : Nat) : rowsC g i ++ [natV (lim (g i))] = rowsC g (i + 1) := by simp [rowsC, List.range_succ]
theorem rows_one (g : Nat → Nat) (i : Nat) : (rowsC g i).all SV.one = true := by
  simp [rowsC, List.all_map, SV.one]
theorem cc_lim {m k : Nat} (h : m + k ≤ 1048576) : (lim (cc m k)).length ≤ k + 1 :=
  Nat.le_trans (lim_len_mono cc_le) (prodN_len fun i hi => by omega)
theorem disc_tries {v : SV} {x : Rat} {L : Nat} {n k : Nat} (hv : RatA v x L) (hL : 1 ≤ L) (hL2 : L ≤ 100) (hn : n ≤ 256) (hk : k ≤ n) (hx : x.num.natAbs ≤ x.den) :
    Go.Ev.Fn CX 103 [.int .i64 (n : Int), .int .i64 (k : Int), v] (.sl (k + 1) (rowsC (termN x.num.natAbs (x.den - x.num.natAbs) n) (k + 1))) := by
  have hN := rat_Norm hv (by omega)
  obtain ⟨z1, z2⟩ := szR_of hv hL
  have o1 := nat_Of 1 (by omega)
  have l1 := lim_len1
  have hf := lim_len_mono (Nat.sub_le x.den x.num.natAbs)
  obtain ⟨s, y, d, rfl, -⟩ := hv
  generalize hp : x.num.natAbs = p at *
  generalize hd : x.den = D at *
  have hLess := fix_Less (N := D) (D := p) (by omega) (by omega)
  generalize hff : D - p = f at *
  refine Go.Ev.Fn.intro (fn := Tryz.f103) (body := (Tryz.f103).body.get!) (by kernel_rfl) (by kernel_rfl) (by kernel_rfl) (fun _ => rfl) (Nat.le_of_ble_eq_true (by kernel_rfl)) ?_; unfold Tryz.f103; simp only [Option.get!_some]
  repeat (first | (simp only [go_sem, Nat.reduceEqDiff, Nat.reduceAdd, Nat.reduceSub, Nat.reduceMul, Nat.reduceLeDiff, Nat.reduceLT, reduceIte, reduceCtorEq, Nat.succ_ne_zero, elemsC, Int.reduceToNat, Nat.reducePow, hp, hd]) | (simp (disch := (first | omega | (simp only [AL, List.length_map]; omega))) only [AR, AL, ifT, ifF, take_all, List.length_cons, List.length_nil, Int.reduceToNat, Int.reducePow, Nat.reducePow, hp, hd]) | (refine wk_intro (by kernel_rfl) ?_) | (refine vf_of (by first | exact hN | exact hLess | exact o1) ?_))
  have lfp : ∀ i, i ≤ n → (lim (f ^ i)).length ≤ 25601 := by
    intro i hi
    have h1 := pow_lim_len f i
    have h2 : (lim f).length * i ≤ 100 * 256 := Nat.mul_le_mul (by omega) (by omega)
    omega
  have lpp : ∀ i, i ≤ n → (lim (p ^ i)).length ≤ 25601 := by
    intro i hi
    have h1 := pow_lim_len p i
    have h2 : (lim p).length * i ≤ 100 * 256 := Nat.mul_le_mul (by omega) (by omega)
    omega
  have lw : ∀ j, j ≤ n → (lim (cc (n - j) j * p ^ j)).length ≤ 26000 := by
    intro j hj
    have h1 := lim_len_mul (a := cc (n - j) j) (b := p ^ j)
    have h2 := cc_lim (m := n - j) (k := j) (by omega)
    have h3 := lpp j hj
    omega
  refine vp_loop_inv (fun s' => s'.tmp 0 = .sv (.int .i64 (n : Int)) ∧ s'.tmp 1 = .sv (.int .i64 (k : Int)) ∧ s'.tmp 7 = .sv (natV (lim p)) ∧ s'.tmp 8 = .sv (natV (lim f)) ∧ s'.gen 54 = 0 ∧
      ∃ i : Nat, 1 ≤ i ∧ i ≤ n + 1 ∧ s'.tmp 9 = .ref 22 0 1 0 i ∧ s'.obj 22 0 = some (rowsC (fun j => f ^ j) i))
    (fun s => match s.tmp 9 with | .ref _ _ _ _ i => n + 1 - i | _ => 0) ⟨rfl, rfl, rfl, rfl, rfl, 1, by omega, by omega, rfl, rfl⟩ ?_
  rintro s' ⟨i0, i1, i7, i8, ig, i, hi1, hi2, i9, iO⟩
  have hlen := rows_len (fun j => f ^ j) i
  by_cases hend : i = n + 1
  · subst hend
    repeat (first | (simp only [go_sem, Nat.reduceEqDiff, Nat.reduceAdd, Nat.reduceSub, Nat.reduceMul, Nat.reduceLeDiff, Nat.reduceLT, reduceIte, reduceCtorEq, Nat.succ_ne_zero, elemsC, Int.reduceToNat, Nat.reducePow, i0, i1, i7, i8, i9, iO]) | (simp (disch := (first | omega | (simp only [AL, List.length_map]; omega))) only [AR, AL, ifT, ifF, take_all, List.length_cons, List.length_nil, Int.reduceToNat, Int.reducePow, Nat.reducePow, i0, i1, i7, i8, i9, iO]) | (refine wk_intro (by kernel_rfl) ?_) | (refine vf_of (by first | exact o1) ?_))
    refine vp_loop_inv (fun s2 => s2.tmp 0 = .sv (.int .i64 (n : Int)) ∧ s2.tmp 1 = .sv (.int .i64 (k : Int)) ∧ s2.tmp 7 = .sv (natV (lim p)) ∧ s2.tmp 9 = .ref 22 0 1 0 (n + 1) ∧ s2.obj 22 0 = some (rowsC (fun j => f ^ j) (n + 1)) ∧
        ∃ j W : Nat, s2.tmp 12 = .sv (.int .i64 (j : Int)) ∧ s2.tmp 10 = .sv (natV (lim W)) ∧ (j ≤ n → W = cc (n - j) j * p ^ j) ∧ j ≤ k + 1 ∧ (lim W).length ≤ 60000 ∧
          ((j = 0 ∧ s2.tmp 11 = .nil ∧ s2.gen 54 = 0) ∨ (0 < j ∧ s2.tmp 11 = .ref 54 0 1 0 j ∧ s2.obj 54 0 = some (rowsC (termN p f n) j))))
      (fun s => match s.tmp 12 with | .sv (.int _ i) => k + 1 - i.toNat | _ => 0) ⟨i0, i1, i7, i9, iO, 0, 1, rfl, rfl, fun _ => by rw [cc_zero, Nat.pow_zero], by omega, by omega, .inl ⟨rfl, rfl, ig⟩⟩ ?_
    rintro s2 ⟨j0, j1, j7, j9, jO, j, W, j12, j10, hW, hj, hlW, hl⟩
    by_cases hend2 : j = k + 1
    · subst hend2
      rcases hl with ⟨h0, _⟩ | ⟨_, j11, jL⟩
      · omega
      · repeat (first | (simp only [go_sem, Nat.reduceEqDiff, Nat.reduceAdd, Nat.reduceSub, Nat.reduceMul, Nat.reduceLeDiff, Nat.reduceLT, reduceIte, reduceCtorEq, Nat.succ_ne_zero, elemsC, Int.reduceToNat, Nat.reducePow, j0, j1, j7, j9, jO, j12, j10, j11, jL]) | (simp (disch := (first | omega | (simp only [AL, List.length_map]; omega))) only [AR, AL, ifT, ifF, take_all, List.length_cons, List.length_nil, Int.reduceToNat, Int.reducePow, Nat.reducePow, j0, j1, j7, j9, jO, j12, j10, j11, jL]) | (refine wk_intro (by kernel_rfl) ?_))
        refine ro_ref (cs := rowsC (termN p f n) (k + 1)) (by decide) ?_ ?_
        · simp only [go_sem, Nat.reduceEqDiff, Nat.reduceAdd, Nat.reduceSub, Nat.reduceMul, Nat.reduceLeDiff, Nat.reduceLT, reduceIte, reduceCtorEq, Nat.succ_ne_zero, elemsC, Int.reduceToNat, Nat.reducePow, j11, jL]
        · rw [List.drop_zero, Nat.mul_one, List.take_of_length_le (Nat.le_of_eq (rows_len _ _))]
    · have hjn : j ≤ n := by omega
      have hWj := hW hjn
      have hat := rows_at (fun j => f ^ j) (i := n + 1) (j := n - j) (by omega)
      have hle2 := rows_len (fun j => f ^ j) (n + 1)
      have hsn := rows_snoc (termN p f n) j
      have hrl := rows_len (termN p f n) j
      have hl2 := lfp (n - j) (by omega)
      have hM1 := nat_MulL (N := W) (D := f ^ (n - j)) (by omega) (by omega)
      have hterm : W * f ^ (n - j) = termN p f n j := by rw [hWj]; rfl
      rw [hterm] at hM1
      have hM2 := nat_MulL (N := W) (D := p) (by omega) (by omega)
      have g2 := lim_len_mul (a := W) (b := p)
      have oN := nat_Of (n - j) (by omega)
      have lN := lim_len_one (a := n - j) (by omega)
      have hM3 := nat_MulL (N := W * p) (D := n - j) (by omega) (by omega)
      have g3 := lim_len_mul (a := W * p) (b := n - j)
      have oJ := nat_Of (j + 1) (by omega)
      have lJ := lim_len_one (a := j + 1) (by omega)
      have hO := fix_Over (N := W * p * (n - j)) (D := j + 1) (by omega) (by omega) (by omega)
      have hnew : j + 1 ≤ n → W * p * (n - j) / (j + 1) = cc (n - (j + 1)) (j + 1) * p ^ (j + 1) := fun h => by rw [hWj, ways_step (by omega)]
      have hWl : (lim (W * p * (n - j) / (j + 1))).length ≤ 60000 := by
        rcases Nat.lt_or_ge j n with h | h
        · rw [hnew h]
          have := lw (j + 1) h
          omega
        · rw [show n - j = 0 by omega, Nat.mul_zero, Nat.zero_div, lim_zero]
          simp
      generalize W * p * (n - j) / (j + 1) = W2 at *
      have e3 : ((n - j : Nat) : Int) % 18446744073709551616 = ((n - j : Nat) : Int) := by omega
      rcases hl with ⟨h0, j11, jg⟩ | ⟨hj0, j11, jL⟩
      · subst h0
        simp only [Nat.sub_zero] at hat hM1 oN hM3 hO
        repeat (first | (simp only [go_sem, Nat.reduceEqDiff, Nat.reduceAdd, Nat.reduceSub, Nat.reduceMul, Nat.reduceLeDiff, Nat.reduceLT, reduceIte, reduceCtorEq, Nat.succ_ne_zero, elemsC, Int.reduceToNat, Nat.reducePow, j0, j1, j7, j9, jO, j12, j10, j11, jg, N0, hat, hsn, hrl]) | (simp (disch := (first | omega | (simp only [AL, List.length_map]; omega))) only [AR, AL, ifT, ifF, take_all, List.length_cons, List.length_nil, Int.reduceToNat, Int.reducePow, Nat.reducePow, j0, j1, j7, j9, jO, j12, j10, j11, jg, N0, hat, hsn, hrl]) | (refine wk_intro (by kernel_rfl) ?_) | (refine vf_of (by first | exact hM1 | exact hM2 | exact oN | exact hM3 | exact oJ | exact hO) ?_))
        exact ⟨⟨1, W2, rfl, rfl, hnew, by omega, hWl, .inr ⟨by omega, rfl, rfl⟩⟩, by omega⟩
      · repeat (first | (simp only [go_sem, Nat.reduceEqDiff, Nat.reduceAdd, Nat.reduceSub, Nat.reduceMul, Nat.reduceLeDiff, Nat.reduceLT, reduceIte, reduceCtorEq, Nat.succ_ne_zero, elemsC, Int.reduceToNat, Nat.reducePow, j0, j1, j7, j9, jO, j12, j10, j11, jL, N0, hat]) | (simp (disch := (first | omega | (simp only [AL, List.length_map]; omega))) only [AR, AL, ifT, ifF, take_all, List.length_cons, List.length_nil, Int.reduceToNat, Int.reducePow, Nat.reducePow, j0, j1, j7, j9, jO, j12, j10, j11, jL, N0, hat]) | (refine wk_intro (by kernel_rfl) ?_))
        repeat (first | (simp only [go_sem, Nat.reduceEqDiff, Nat.reduceAdd, Nat.reduceSub, Nat.reduceMul, Nat.reduceLeDiff, Nat.reduceLT, reduceIte, reduceCtorEq, Nat.succ_ne_zero, elemsC, Int.reduceToNat, Nat.reducePow, j0, j1, j7, j9, jO, j12, j10, j11, jL, N0, hat, hsn, hrl]) | (simp (disch := (first | omega | (simp only [AL, List.length_map]; omega))) only [AR, AL, ifT, ifF, take_all, List.length_cons, List.length_nil, Int.reduceToNat, Int.reducePow, Nat.reducePow, j0, j1, j7, j9, jO, j12, j10, j11, jL, N0, hat, hsn, hrl]) | (refine wk_intro (by kernel_rfl) ?_) | (refine vf_of (by first | exact hM1 | exact hM2 | exact oN | exact hM3 | exact oJ | exact hO) ?_))
        exact ⟨⟨j + 1, W2, rfl, rfl, hnew, by omega, hWl, .inr ⟨by omega, rfl, rfl⟩⟩, by omega⟩
  · have hat := rows_at (fun j => f ^ j) (i := i) (j := i - 1) (by omega)
    have hsn := rows_snoc (fun j => f ^ j) i
    have hl1 := lfp (i - 1) (by omega)
    have hM := nat_MulL (N := f ^ (i - 1)) (D := f) (by omega) (by omega)
    rw [← Nat.pow_succ, show (i - 1).succ = i by omega] at hM
    repeat (first | (simp only [go_sem, Nat.reduceEqDiff, Nat.reduceAdd, Nat.reduceSub, Nat.reduceMul, Nat.reduceLeDiff, Nat.reduceLT, reduceIte, reduceCtorEq, Nat.succ_ne_zero, elemsC, Int.reduceToNat, Nat.reducePow, i0, i1, i7, i8, i9, iO, N0, hat, hsn, hlen]) | (simp (disch := (first | omega | (simp only [AL, List.length_map]; omega))) only [AR, AL, ifT, ifF, take_all, List.length_cons, List.length_nil, Int.reduceToNat, Int.reducePow, Nat.reducePow, i0, i1, i7, i8, i9, iO, N0, hat, hsn, hlen]) | (refine wk_intro (by kernel_rfl) ?_) | (refine vf_of (by first | exact hM) ?_))
    exact ⟨⟨ig, i + 1, by omega, by omega, rfl, rfl⟩, by omega⟩
theorem sum_len {p f n : Nat} (h : ∀ j, (lim (termN p f n j)).length ≤ 90000) : ∀ k, (lim (sumN p f n k)).length ≤ 90000 + k := by
  intro k
  induction k with
  | zero => rw [show sumN p f n 0 = 0 from rfl, lim_zero]; simp
  | succ k ih =>
    have := lim_len_add2 (a := sumN p f n k) (b := termN p f n k) ih (Nat.le_trans (h k) (by omega))
    exact this
theorem term_len {p f n : Nat} (hn : n ≤ 256) (hp : (lim p).length ≤ 100) (hf : (lim f).length ≤ 100) (j : Nat) (hj : j ≤ n) : (lim (termN p f n j)).length ≤ 90000 := by
  have h1 := pow_lim_len p j
  have h2 : (lim p).length * j ≤ 100 * 256 := Nat.mul_le_mul hp (by omega)
  have h3 := pow_lim_len f (n - j)
  have h4 : (lim f).length * (n - j) ≤ 100 * 256 := Nat.mul_le_mul hf (by omega)
  have h5 := cc_lim (m := n - j) (k := j) (by omega)
  have h6 := lim_len_mul (a := cc (n - j) j) (b := p ^ j)
  have h7 := lim_len_mul (a := cc (n - j) j * p ^ j) (b := f ^ (n - j))
  unfold termN
  omega
theorem disc_sum {v : SV} {x : Rat} {L : Nat} {n k : Nat} {g : Nat → Nat} {S : Nat → Nat} (hv : RatA v x L) (hL : 1 ≤ L) (hL2 : L ≤ 100) (hn : n ≤ 256) (hk : k ≤ 1000) (hS0 : S 0 = 0) (hS : ∀ j, S (j + 1) = S j + g j) (hg : ∀ j, j < k → (lim (g j)).length ≤ 90000) (hSl : ∀ j, j ≤ k → (lim (S j)).length ≤ 100000) :
    Go.Ev.Fn CX 104 [.int .i64 (n : Int), v, .sl k (rowsC g k)] (rv (mkRat (S k : Nat) (x.den ^ n))) := by
  have hN := rat_Norm hv (by omega)
  obtain ⟨z1, z2⟩ := szR_of hv hL
  obtain ⟨s, y, d, rfl, -⟩ := hv
  have hpw := disc_power x.den n hn (by omega)
  have hpl := pow_lim_len x.den n
  have hpl2 : (lim x.den).length * n ≤ 100 * 256 := Nat.mul_le_mul (by omega) hn
  have hOf := rat_OfL (s := false) (n := S k) (d := x.den ^ n) (by have := hSl k (Nat.le_refl k); omega) (by omega)
  rw [show sgn false (S k) = ((S k : Nat) : Int) from rfl] at hOf
  refine Go.Ev.Fn.intro (fn := Tryz.f104) (body := (Tryz.f104).body.get!) (by kernel_rfl) (by kernel_rfl) (by kernel_rfl) (fun _ => rfl) (Nat.le_of_ble_eq_true (by kernel_rfl)) ?_; unfold Tryz.f104; simp only [Option.get!_some]
  repeat (first | (simp only [go_sem, Nat.reduceEqDiff, Nat.reduceAdd, Nat.reduceSub, Nat.reduceMul, Nat.reduceLeDiff, Nat.reduceLT, reduceIte, reduceCtorEq, Nat.succ_ne_zero, elemsC, Int.reduceToNat, Nat.reducePow]) | (simp (disch := (first | omega | (simp only [AL, List.length_map]; omega))) only [AR, AL, ifT, ifF, take_all, List.length_cons, List.length_nil, Int.reduceToNat, Int.reducePow, Nat.reducePow]) | (refine wk_intro (by kernel_rfl) ?_))
  refine vp_loop_inv (fun s' => s'.tmp 0 = .sv (.int .i64 (n : Int)) ∧ s'.tmp 4 = .ptr 4 0 0 ∧ s'.obj 4 0 = some [.bool s, natV y, natV d] ∧ s'.tmp 6 = .ptr 6 0 0 ∧ s'.obj 6 0 = some [.bool false, .sl 0 [], .sl 0 []] ∧ s'.tmp 10 = .sv (.sl k (rowsC g k)) ∧ s'.tmp 11 = .sv (.int .i64 (k : Int)) ∧
      ∃ i : Nat, s'.tmp 12 = .sv (.int .i64 (i : Int)) ∧ i ≤ k ∧ ((i = 0 ∧ s'.tmp 7 = .nil) ∨ s'.tmp 7 = .sv (natV (lim (S i)))))
    (fun s => match s.tmp 12 with | .sv (.int _ i) => k - i.toNat | _ => 0) ⟨rfl, rfl, rfl, rfl, rfl, rfl, rfl, 0, rfl, by omega, .inl ⟨rfl, rfl⟩⟩ ?_
  rintro s' ⟨i0, i4, iP, i6, iR, i10, i11, i, i12, hi, h7⟩
  by_cases hend : i = k
  · subst hend
    rcases h7 with ⟨h0, i7⟩ | i7
    · rw [h0, hS0, lim_zero] at hOf
      rw [h0, hS0]
      repeat (first | (simp only [go_sem, Nat.reduceEqDiff, Nat.reduceAdd, Nat.reduceSub, Nat.reduceMul, Nat.reduceLeDiff, Nat.reduceLT, reduceIte, reduceCtorEq, Nat.succ_ne_zero, elemsC, Int.reduceToNat, Nat.reducePow, i0, i4, iP, i6, iR, i10, i11, i12, i7]) | (simp (disch := (first | omega | (simp only [AL, List.length_map]; omega))) only [AR, AL, ifT, ifF, take_all, List.length_cons, List.length_nil, Int.reduceToNat, Int.reducePow, Nat.reducePow, i0, i4, iP, i6, iR, i10, i11, i12, i7]) | (refine wk_intro (by kernel_rfl) ?_) | (refine vf_of (by first | exact hN | exact hpw | exact hOf) ?_))
    · repeat (first | (simp only [go_sem, Nat.reduceEqDiff, Nat.reduceAdd, Nat.reduceSub, Nat.reduceMul, Nat.reduceLeDiff, Nat.reduceLT, reduceIte, reduceCtorEq, Nat.succ_ne_zero, elemsC, Int.reduceToNat, Nat.reducePow, i0, i4, iP, i6, iR, i10, i11, i12, i7]) | (simp (disch := (first | omega | (simp only [AL, List.length_map]; omega))) only [AR, AL, ifT, ifF, take_all, List.length_cons, List.length_nil, Int.reduceToNat, Int.reducePow, Nat.reducePow, i0, i4, iP, i6, iR, i10, i11, i12, i7]) | (refine wk_intro (by kernel_rfl) ?_))
      repeat (first | (simp only [go_sem, Nat.reduceEqDiff, Nat.reduceAdd, Nat.reduceSub, Nat.reduceMul, Nat.reduceLeDiff, Nat.reduceLT, reduceIte, reduceCtorEq, Nat.succ_ne_zero, elemsC, Int.reduceToNat, Nat.reducePow, i0, i4, iP, i6, iR, i7]) | (simp (disch := (first | omega | (simp only [AL, List.length_map]; omega))) only [AR, AL, ifT, ifF, take_all, List.length_cons, List.length_nil, Int.reduceToNat, Int.reducePow, Nat.reducePow, i0, i4, iP, i6, iR, i7]) | (refine wk_intro (by kernel_rfl) ?_) | (refine vf_of (by first | exact hN | exact hpw | exact hOf) ?_))
  · have hat := rows_at g (i := k) (j := i) (by omega)
    have hrl := rows_len g k
    have hl1 := hg i (by omega)
    have hl2 := hSl i (by omega)
    have hA := nat_AddL (N := S i) (D := g i) (by omega) (by omega)
    rw [← hS] at hA
    rcases h7 with ⟨h0, i7⟩ | i7
    · subst h0
      rw [hS0, lim_zero] at hA
      rw [List.drop_zero] at hat
      repeat (first | (simp only [go_sem, Nat.reduceEqDiff, Nat.reduceAdd, Nat.reduceSub, Nat.reduceMul, Nat.reduceLeDiff, Nat.reduceLT, reduceIte, reduceCtorEq, Nat.succ_ne_zero, elemsC, Int.reduceToNat, Nat.reducePow, i0, i4, iP, i6, iR, i10, i11, i12, i7, hat, hrl]) | (simp (disch := (first | omega | (simp only [AL, List.length_map]; omega))) only [AR, AL, ifT, ifF, take_all, List.length_cons, List.length_nil, Int.reduceToNat, Int.reducePow, Nat.reducePow, i0, i4, iP, i6, iR, i10, i11, i12, i7, hat, hrl]) | (refine wk_intro (by kernel_rfl) ?_) | (refine vf_of (by first | exact hA) ?_))
      exact ⟨⟨1, rfl, by omega, .inr rfl⟩, by omega⟩
    · repeat (first | (simp only [go_sem, Nat.reduceEqDiff, Nat.reduceAdd, Nat.reduceSub, Nat.reduceMul, Nat.reduceLeDiff, Nat.reduceLT, reduceIte, reduceCtorEq, Nat.succ_ne_zero, elemsC, Int.reduceToNat, Nat.reducePow, i0, i4, iP, i6, iR, i10, i11, i12, i7, hat, hrl]) | (simp (disch := (first | omega | (simp only [AL, List.length_map]; omega))) only [AR, AL, ifT, ifF, take_all, List.length_cons, List.length_nil, Int.reduceToNat, Int.reducePow, Nat.reducePow, i0, i4, iP, i6, iR, i10, i11, i12, i7, hat, hrl]) | (refine wk_intro (by kernel_rfl) ?_))
      refine vf_of (hA) ?_; repeat (first | (simp only [go_sem, Nat.reduceEqDiff, Nat.reduceAdd, Nat.reduceSub, Nat.reduceMul, Nat.reduceLeDiff, Nat.reduceLT, reduceIte, reduceCtorEq, Nat.succ_ne_zero, elemsC, Int.reduceToNat, Nat.reducePow, i0, i4, iP, i6, iR, i10, i11, i12, i7, hat, hrl]) | (simp (disch := (first | omega | (simp only [AL, List.length_map]; omega))) only [AR, AL, ifT, ifF, take_all, List.length_cons, List.length_nil, Int.reduceToNat, Int.reducePow, Nat.reducePow, i0, i4, iP, i6, iR, i10, i11, i12, i7, hat, hrl]) | (refine wk_intro (by kernel_rfl) ?_))
      exact ⟨⟨i + 1, rfl, by omega, .inr rfl⟩, by omega⟩
end Go.Proofs.YtdnmhnjblgkjaaaGreat

/- vernierref9.Choose, in the evaluator. -/
namespace Go.Proofs.YtdnmhnjblgkjaaaGreat
set_option linter.unusedSimpArgs false
set_option linter.unusedVariables false
set_option maxRecDepth 8000
open Go.Ev
/-- A number of limbs: a reading, or the row [1] that was written out. -/
def RowL (s : St) (t d v : Nat) : Prop := s.tmp t = .sv (natV (lim v)) ∨ (v = 1 ∧ s.tmp t = .ref d 0 1 0 1 ∧ s.obj d 0 = some [.int .u32 1])
theorem cc_len {m k : Nat} (h : m + k ≤ 1048576) : (lim (cc m k)).length ≤ k + 1 :=
  Nat.le_trans (lim_len_mono cc_le) (prodN_len fun i hi => by omega)
theorem cc_quot (m k : Nat) : cc m k * (m + (k + 1)) / (k + 1) = cc m (k + 1) := by
  rw [← cc_step, Nat.mul_div_cancel _ (by omega)]
theorem ref9_Choose (n k : Int) (hn : -9223372036854775808 ≤ n ∧ n < 9223372036854775808) (hk : -9223372036854775808 ≤ k ∧ k < 9223372036854775808) : Go.Ev.Fn CX 120 [.int .i64 n, .int .i64 k] (rv (chR n k : Rat)) := by
  have h0 := ref2_Int 0 (by omega)
  refine Go.Ev.Fn.intro (fn := Tryz.f120) (body := (Tryz.f120).body.get!) (by kernel_rfl) (by kernel_rfl) (by kernel_rfl) (fun _ => rfl) (Nat.le_of_ble_eq_true (by kernel_rfl)) ?_; unfold Tryz.f120; simp only [Option.get!_some]
  by_cases hc : 0 ≤ n ∧ n ≤ 512 ∧ 0 ≤ k ∧ k ≤ n
  · obtain ⟨c1, c2, c3, c4⟩ := hc
    obtain ⟨K, rfl⟩ : ∃ K : Nat, k = (K : Int) := ⟨k.toNat, by omega⟩
    obtain ⟨M, hM⟩ : ∃ M : Nat, n - K = (M : Int) := ⟨(n - K).toNat, by omega⟩
    have hn' : n = ((M + K : Nat) : Int) := by omega
    subst hn'
    have e : chR ((M + K : Nat) : Int) (K : Int) = cc M K := by
      unfold chR
      rw [if_pos ⟨by omega, by omega, by omega, by omega⟩, show (((M + K : Nat) : Int) - (K : Int)).toNat = M by omega, Int.toNat_natCast]
    rw [e]
    have lc := cc_len (m := M) (k := K) (by omega)
    have hOf := ref2_OfL (s := false) (n := cc M K) (d := 1) (by omega) (by have := lim_len1; omega)
    rw [show mkRat (sgn false (cc M K)) 1 = (cc M K : Rat) from Rat.mkRat_one _, lim_one] at hOf
    have e1 : ((M + K : Nat) : Int) - (K : Int) = (M : Int) := by omega
    repeat (first | (simp only [go_sem, Nat.reduceEqDiff, Nat.reduceAdd, Nat.reduceSub, Nat.reduceMul, Nat.reduceLeDiff, Nat.reduceLT, reduceIte, reduceCtorEq, Nat.succ_ne_zero, elemsC, Int.reduceToNat, Nat.reducePow]) | (simp (disch := (first | omega | (simp only [AL, List.length_map]; omega))) only [AR, AL, ifT, ifF, take_all, List.length_cons, List.length_nil, Int.reduceToNat, Int.reducePow, Nat.reducePow]) | (refine wk_intro (by kernel_rfl) ?_))
    refine vp_loop_inv (fun s => s.tmp 4 = .ptr 4 0 0 ∧ s.obj 4 0 = some [.bool false, .sl 0 [], .sl 0 []] ∧ s.tmp 0 = .sv (.int .i64 ((M + K : Nat) : Int)) ∧ s.tmp 1 = .sv (.int .i64 (K : Int)) ∧ ∃ i : Nat, s.tmp 6 = .sv (.int .i64 ((i + 1 : Nat) : Int)) ∧ RowL s 5 23 (cc M i) ∧ i ≤ K)
      (fun s => match s.tmp 6 with | .sv (.int _ n) => ((K : Int) + 1 - n).toNat | _ => 0) ⟨rfl, rfl, rfl, rfl, 0, rfl, .inr ⟨cc_zero _, rfl, rfl⟩, by omega⟩ ?_
    rintro s ⟨i4, iP, i0, i1, i, i6, hR, hi⟩
    by_cases hend : i = K
    · subst hend
      rcases hR with i5 | ⟨hv, i5, iO⟩
      · repeat (first | (simp only [go_sem, Nat.reduceEqDiff, Nat.reduceAdd, Nat.reduceSub, Nat.reduceMul, Nat.reduceLeDiff, Nat.reduceLT, reduceIte, reduceCtorEq, Nat.succ_ne_zero, elemsC, Int.reduceToNat, Nat.reducePow, i4, iP, i0, i1, i6, i5]) | (simp (disch := (first | omega | (simp only [AL, List.length_map]; omega))) only [AR, AL, ifT, ifF, take_all, List.length_cons, List.length_nil, Int.reduceToNat, Int.reducePow, Nat.reducePow, i4, iP, i0, i1, i6, i5]) | (refine wk_intro (by kernel_rfl) ?_))
        refine vf_of (hOf) ?_; repeat (first | (simp only [go_sem, Nat.reduceEqDiff, Nat.reduceAdd, Nat.reduceSub, Nat.reduceMul, Nat.reduceLeDiff, Nat.reduceLT, reduceIte, reduceCtorEq, Nat.succ_ne_zero, elemsC, Int.reduceToNat, Nat.reducePow, i4, iP, i0, i1, i6, i5]) | (simp (disch := (first | omega | (simp only [AL, List.length_map]; omega))) only [AR, AL, ifT, ifF, take_all, List.length_cons, List.length_nil, Int.reduceToNat, Int.reducePow, Nat.reducePow, i4, iP, i0, i1, i6, i5]) | (refine wk_intro (by kernel_rfl) ?_))
      · rw [hv, lim_one] at hOf
        rw [hv]
        repeat (first | (simp only [go_sem, Nat.reduceEqDiff, Nat.reduceAdd, Nat.reduceSub, Nat.reduceMul, Nat.reduceLeDiff, Nat.reduceLT, reduceIte, reduceCtorEq, Nat.succ_ne_zero, elemsC, Int.reduceToNat, Nat.reducePow, i4, iP, i0, i1, i6, i5, iO]) | (simp (disch := (first | omega | (simp only [AL, List.length_map]; omega))) only [AR, AL, ifT, ifF, take_all, List.length_cons, List.length_nil, Int.reduceToNat, Int.reducePow, Nat.reducePow, i4, iP, i0, i1, i6, i5, iO]) | (refine wk_intro (by kernel_rfl) ?_) | (refine vf_of (by first | exact hOf) ?_))
    · have l1 := cc_len (m := M) (k := i) (by omega)
      have oN := ref1_Of (M + (i + 1)) (by omega)
      have oI := ref1_Of (i + 1) (by omega)
      have l2 := lim_len_one (a := M + (i + 1)) (by omega)
      have l3 := lim_len_one (a := i + 1) (by omega)
      have hM2 := ref1_MulL (N := cc M i) (D := M + (i + 1)) (by omega) (by omega)
      have l4 := lim_len_mul (a := cc M i) (b := M + (i + 1))
      have hD := ref1_DivL (N := cc M i * (M + (i + 1))) (D := i + 1) (by omega) (by omega) (by omega)
      rw [cc_quot] at hD
      rcases hR with i5 | ⟨hv, i5, iO⟩
      · repeat (first | (simp only [go_sem, Nat.reduceEqDiff, Nat.reduceAdd, Nat.reduceSub, Nat.reduceMul, Nat.reduceLeDiff, Nat.reduceLT, reduceIte, reduceCtorEq, Nat.succ_ne_zero, elemsC, Int.reduceToNat, Nat.reducePow, i4, iP, i0, i1, i6, i5, e1]) | (simp (disch := (first | omega | (simp only [AL, List.length_map]; omega))) only [AR, AL, ifT, ifF, take_all, List.length_cons, List.length_nil, Int.reduceToNat, Int.reducePow, Nat.reducePow, i4, iP, i0, i1, i6, i5, e1]) | (refine wk_intro (by kernel_rfl) ?_))
        repeat (first | (simp only [go_sem, Nat.reduceEqDiff, Nat.reduceAdd, Nat.reduceSub, Nat.reduceMul, Nat.reduceLeDiff, Nat.reduceLT, reduceIte, reduceCtorEq, Nat.succ_ne_zero, elemsC, Int.reduceToNat, Nat.reducePow, i4, iP, i0, i1, i6, i5, e1]) | (simp (disch := (first | omega | (simp only [AL, List.length_map]; omega))) only [AR, AL, ifT, ifF, take_all, List.length_cons, List.length_nil, Int.reduceToNat, Int.reducePow, Nat.reducePow, i4, iP, i0, i1, i6, i5, e1]) | (refine wk_intro (by kernel_rfl) ?_) | (refine vf_of (by first | exact oN | exact hM2 | exact oI | exact hD) ?_))
        refine ⟨⟨i + 1, rfl, .inl rfl, by omega⟩, by omega⟩
      · rw [hv, lim_one] at hM2
        rw [hv] at hD
        repeat (first | (simp only [go_sem, Nat.reduceEqDiff, Nat.reduceAdd, Nat.reduceSub, Nat.reduceMul, Nat.reduceLeDiff, Nat.reduceLT, reduceIte, reduceCtorEq, Nat.succ_ne_zero, elemsC, Int.reduceToNat, Nat.reducePow, i4, iP, i0, i1, i6, i5, iO, e1, N0]) | (simp (disch := (first | omega | (simp only [AL, List.length_map]; omega))) only [AR, AL, ifT, ifF, take_all, List.length_cons, List.length_nil, Int.reduceToNat, Int.reducePow, Nat.reducePow, i4, iP, i0, i1, i6, i5, iO, e1, N0]) | (refine wk_intro (by kernel_rfl) ?_) | (refine vf_of (by first | exact oN | exact hM2 | exact oI | exact hD) ?_))
        refine ⟨⟨i + 1, rfl, .inl rfl, by omega⟩, by omega⟩
  · have e : chR n k = 0 := if_neg hc
    rw [e]
    by_cases c1 : n < 0
    · repeat (first | (simp only [go_sem, Nat.reduceEqDiff, Nat.reduceAdd, Nat.reduceSub, Nat.reduceMul, Nat.reduceLeDiff, Nat.reduceLT, reduceIte, reduceCtorEq, Nat.succ_ne_zero, elemsC, Int.reduceToNat, Nat.reducePow]) | (simp (disch := (first | omega | (simp only [AL, List.length_map]; omega))) only [AR, AL, ifT, ifF, take_all, List.length_cons, List.length_nil, Int.reduceToNat, Int.reducePow, Nat.reducePow]) | (refine wk_intro (by kernel_rfl) ?_))
      refine vf_of (h0) ?_; repeat (first | (simp only [go_sem, Nat.reduceEqDiff, Nat.reduceAdd, Nat.reduceSub, Nat.reduceMul, Nat.reduceLeDiff, Nat.reduceLT, reduceIte, reduceCtorEq, Nat.succ_ne_zero, elemsC, Int.reduceToNat, Nat.reducePow]) | (simp (disch := (first | omega | (simp only [AL, List.length_map]; omega))) only [AR, AL, ifT, ifF, take_all, List.length_cons, List.length_nil, Int.reduceToNat, Int.reducePow, Nat.reducePow]) | (refine wk_intro (by kernel_rfl) ?_))
      rfl
    · by_cases c2 : 512 < n
      · repeat (first | (simp only [go_sem, Nat.reduceEqDiff, Nat.reduceAdd, Nat.reduceSub, Nat.reduceMul, Nat.reduceLeDiff, Nat.reduceLT, reduceIte, reduceCtorEq, Nat.succ_ne_zero, elemsC, Int.reduceToNat, Nat.reducePow]) | (simp (disch := (first | omega | (simp only [AL, List.length_map]; omega))) only [AR, AL, ifT, ifF, take_all, List.length_cons, List.length_nil, Int.reduceToNat, Int.reducePow, Nat.reducePow]) | (refine wk_intro (by kernel_rfl) ?_))
        refine vf_of (h0) ?_; repeat (first | (simp only [go_sem, Nat.reduceEqDiff, Nat.reduceAdd, Nat.reduceSub, Nat.reduceMul, Nat.reduceLeDiff, Nat.reduceLT, reduceIte, reduceCtorEq, Nat.succ_ne_zero, elemsC, Int.reduceToNat, Nat.reducePow]) | (simp (disch := (first | omega | (simp only [AL, List.length_map]; omega))) only [AR, AL, ifT, ifF, take_all, List.length_cons, List.length_nil, Int.reduceToNat, Int.reducePow, Nat.reducePow]) | (refine wk_intro (by kernel_rfl) ?_))
        rfl
      · by_cases c3 : k < 0
        · repeat (first | (simp only [go_sem, Nat.reduceEqDiff, Nat.reduceAdd, Nat.reduceSub, Nat.reduceMul, Nat.reduceLeDiff, Nat.reduceLT, reduceIte, reduceCtorEq, Nat.succ_ne_zero, elemsC, Int.reduceToNat, Nat.reducePow]) | (simp (disch := (first | omega | (simp only [AL, List.length_map]; omega))) only [AR, AL, ifT, ifF, take_all, List.length_cons, List.length_nil, Int.reduceToNat, Int.reducePow, Nat.reducePow]) | (refine wk_intro (by kernel_rfl) ?_))
          refine vf_of (h0) ?_; repeat (first | (simp only [go_sem, Nat.reduceEqDiff, Nat.reduceAdd, Nat.reduceSub, Nat.reduceMul, Nat.reduceLeDiff, Nat.reduceLT, reduceIte, reduceCtorEq, Nat.succ_ne_zero, elemsC, Int.reduceToNat, Nat.reducePow]) | (simp (disch := (first | omega | (simp only [AL, List.length_map]; omega))) only [AR, AL, ifT, ifF, take_all, List.length_cons, List.length_nil, Int.reduceToNat, Int.reducePow, Nat.reducePow]) | (refine wk_intro (by kernel_rfl) ?_))
          rfl
        · have c4 : n < k := by omega
          repeat (first | (simp only [go_sem, Nat.reduceEqDiff, Nat.reduceAdd, Nat.reduceSub, Nat.reduceMul, Nat.reduceLeDiff, Nat.reduceLT, reduceIte, reduceCtorEq, Nat.succ_ne_zero, elemsC, Int.reduceToNat, Nat.reducePow]) | (simp (disch := (first | omega | (simp only [AL, List.length_map]; omega))) only [AR, AL, ifT, ifF, take_all, List.length_cons, List.length_nil, Int.reduceToNat, Int.reducePow, Nat.reducePow]) | (refine wk_intro (by kernel_rfl) ?_) | (refine vf_of (by first | exact h0) ?_))
          rfl
end Go.Proofs.YtdnmhnjblgkjaaaGreat

/- vernierref13.bad, powers, parts, Least, BinomCdf; vernierref15.Least, in the evaluator. -/
namespace Go.Proofs.YtdnmhnjblgkjaaaGreat
set_option linter.unusedSimpArgs false
set_option linter.unusedVariables false
set_option maxRecDepth 8000
open Go.Ev
theorem not_lt_dec' {q r : Rat} : (!decide (q < r)) = decide (r ≤ q) := by
  by_cases h : q < r
  · rw [decide_eq_true h, decide_eq_false (show ¬ r ≤ q by grind)]; rfl
  · rw [decide_eq_false h, decide_eq_true (show r ≤ q by grind)]; rfl
theorem ref13_bad {v : SV} {x : Rat} {L : Nat} {n : Int} (hv : RatA v x L) (hL : 1 ≤ L) (h : L ≤ 524288) : Go.Ev.Fn CX 109 [.int .i64 n, v] (.bool (!tryD n x)) := by
  have r0 := ref2_Int 0 (by omega)
  have r1 := ref2_Int 1 (by omega)
  have c0 := ref2_Cmp hv (RatA_rv (int_szR (n := 0) (by omega))) hL (by omega) (by omega)
  have c1 := ref2_Cmp hv (RatA_rv (int_szR (n := 1) (by omega))) hL (by omega) (by omega)
  have e0 : decide (cmpR x ((0 : Int) : Rat) < 0) = decide (x < ((0 : Int) : Rat)) := cmpR_lt
  have e1 : decide (cmpR x ((1 : Int) : Rat) > 0) = decide (((1 : Int) : Rat) < x) := cmpR_gt
  have d0 : decide (0 ≤ x) = !decide (x < ((0 : Int) : Rat)) := not_lt_dec'.symm
  have d1 : decide (x ≤ 1) = !decide (((1 : Int) : Rat) < x) := not_lt_dec'.symm
  unfold tryD
  rw [d0, d1]
  obtain ⟨s, y, d, rfl, -⟩ := hv
  generalize decide (x < ((0 : Int) : Rat)) = b at *
  generalize decide (((1 : Int) : Rat) < x) = c at *
  clear d0 d1
  by_cases h1 : 0 ≤ n
  · rw [decide_eq_true h1, Bool.true_and]
    by_cases h2 : n ≤ 256
    · rw [decide_eq_true h2, Bool.true_and]
      cases b
      · cases c
        all_goals
          refine Go.Ev.Fn.intro (fn := Tryz.f109) (body := (Tryz.f109).body.get!) (by kernel_rfl) (by kernel_rfl) (by kernel_rfl) (fun _ => rfl) (Nat.le_of_ble_eq_true (by kernel_rfl)) ?_; unfold Tryz.f109; simp only [Option.get!_some]
          repeat (first | (simp only [go_sem, Nat.reduceEqDiff, Nat.reduceAdd, Nat.reduceSub, Nat.reduceMul, Nat.reduceLeDiff, Nat.reduceLT, reduceIte, reduceCtorEq, Nat.succ_ne_zero, elemsC, Int.reduceToNat, Nat.reducePow, e0, e1]) | (simp (disch := (first | omega | (simp only [AL, List.length_map]; omega))) only [AR, AL, ifT, ifF, take_all, List.length_cons, List.length_nil, Int.reduceToNat, Int.reducePow, Nat.reducePow, e0, e1]) | (refine wk_intro (by kernel_rfl) ?_) | (refine vp_draw (id := 1) (l := []) (by kernel_rfl) ?_) | (refine vf_of (by first | exact r0 | exact c0 | exact r1 | exact c1) ?_))
          rfl
      · rw [show (!(!true && !c)) = true from rfl]
        refine Go.Ev.Fn.intro (fn := Tryz.f109) (body := (Tryz.f109).body.get!) (by kernel_rfl) (by kernel_rfl) (by kernel_rfl) (fun _ => rfl) (Nat.le_of_ble_eq_true (by kernel_rfl)) ?_; unfold Tryz.f109; simp only [Option.get!_some]
        repeat (first | (simp only [go_sem, Nat.reduceEqDiff, Nat.reduceAdd, Nat.reduceSub, Nat.reduceMul, Nat.reduceLeDiff, Nat.reduceLT, reduceIte, reduceCtorEq, Nat.succ_ne_zero, elemsC, Int.reduceToNat, Nat.reducePow, e0]) | (simp (disch := (first | omega | (simp only [AL, List.length_map]; omega))) only [AR, AL, ifT, ifF, take_all, List.length_cons, List.length_nil, Int.reduceToNat, Int.reducePow, Nat.reducePow, e0]) | (refine wk_intro (by kernel_rfl) ?_) | (refine vp_draw (id := 1) (l := []) (by kernel_rfl) ?_) | (refine vf_of (by first | exact r0 | exact c0) ?_))
    · rw [decide_eq_false h2, Bool.false_and]
      refine Go.Ev.Fn.intro (fn := Tryz.f109) (body := (Tryz.f109).body.get!) (by kernel_rfl) (by kernel_rfl) (by kernel_rfl) (fun _ => rfl) (Nat.le_of_ble_eq_true (by kernel_rfl)) ?_; unfold Tryz.f109; simp only [Option.get!_some]
      repeat (first | (simp only [go_sem, Nat.reduceEqDiff, Nat.reduceAdd, Nat.reduceSub, Nat.reduceMul, Nat.reduceLeDiff, Nat.reduceLT, reduceIte, reduceCtorEq, Nat.succ_ne_zero, elemsC, Int.reduceToNat, Nat.reducePow]) | (simp (disch := (first | omega | (simp only [AL, List.length_map]; omega))) only [AR, AL, ifT, ifF, take_all, List.length_cons, List.length_nil, Int.reduceToNat, Int.reducePow, Nat.reducePow]) | (refine wk_intro (by kernel_rfl) ?_) | (refine vp_draw (id := 1) (l := []) (by kernel_rfl) ?_))
      rfl
  · rw [decide_eq_false h1, Bool.false_and]
    refine Go.Ev.Fn.intro (fn := Tryz.f109) (body := (Tryz.f109).body.get!) (by kernel_rfl) (by kernel_rfl) (by kernel_rfl) (fun _ => rfl) (Nat.le_of_ble_eq_true (by kernel_rfl)) ?_; unfold Tryz.f109; simp only [Option.get!_some]
    repeat (first | (simp only [go_sem, Nat.reduceEqDiff, Nat.reduceAdd, Nat.reduceSub, Nat.reduceMul, Nat.reduceLeDiff, Nat.reduceLT, reduceIte, reduceCtorEq, Nat.succ_ne_zero, elemsC, Int.reduceToNat, Nat.reducePow]) | (simp (disch := (first | omega | (simp only [AL, List.length_map]; omega))) only [AR, AL, ifT, ifF, take_all, List.length_cons, List.length_nil, Int.reduceToNat, Int.reducePow, Nat.reducePow]) | (refine wk_intro (by kernel_rfl) ?_) | (refine vp_draw (id := 1) (l := []) (by kernel_rfl) ?_))
    rfl
theorem rows_first (g : Nat → Nat) (h : g 0 = 1) : [natV [1]] = rowsC g 1 := by
  show [natV [1]] = [natV (lim (g 0))]
  rw [h, lim_one]
theorem ref13_powers {X n : Nat} (hn : n ≤ 256) (hX : (lim X).length ≤ 100) : Go.Ev.Fn CX 119 [natV (lim X), .int .i64 (n : Int)] (.sl (n + 1) (rowsC (fun j => X ^ j) (n + 1))) := by
  have h1 := rows_first (fun j => X ^ j) (Nat.pow_zero X)
  have lp : ∀ i, i ≤ n → (lim (X ^ i)).length ≤ 25601 := by
    intro i hi
    have h1 := pow_lim_len X i
    have h2 : (lim X).length * i ≤ 100 * 256 := Nat.mul_le_mul (by omega) (by omega)
    omega
  refine Go.Ev.Fn.intro (fn := Tryz.f119) (body := (Tryz.f119).body.get!) (by kernel_rfl) (by kernel_rfl) (by kernel_rfl) (fun _ => rfl) (Nat.le_of_ble_eq_true (by kernel_rfl)) ?_; unfold Tryz.f119; simp only [Option.get!_some]
  repeat (first | (simp only [go_sem, Nat.reduceEqDiff, Nat.reduceAdd, Nat.reduceSub, Nat.reduceMul, Nat.reduceLeDiff, Nat.reduceLT, reduceIte, reduceCtorEq, Nat.succ_ne_zero, elemsC, Int.reduceToNat, Nat.reducePow]) | (simp (disch := (first | omega | (simp only [AL, List.length_map]; omega))) only [AR, AL, ifT, ifF, take_all, List.length_cons, List.length_nil, Int.reduceToNat, Int.reducePow, Nat.reducePow]) | (refine wk_intro (by kernel_rfl) ?_))
  refine vp_loop_inv (fun s => s.tmp 0 = .sv (natV (lim X)) ∧ s.tmp 1 = .sv (.int .i64 (n : Int)) ∧
      ∃ i : Nat, i ≤ n ∧ s.tmp 6 = .sv (.int .i64 (i : Int)) ∧ s.tmp 5 = .ref 8 0 1 0 (i + 1) ∧ s.obj 8 0 = some (rowsC (fun j => X ^ j) (i + 1)))
    (fun s => match s.tmp 6 with | .sv (.int _ i) => n - i.toNat | _ => 0) ⟨rfl, rfl, 0, by omega, rfl, rfl, by first | exact congrArg some h1 | skip⟩ ?_
  rintro s ⟨i0, i1, i, hi, i6, i5, iO⟩
  have hlen := rows_len (fun j => X ^ j) (i + 1)
  by_cases hend : i = n
  · subst hend
    repeat (first | (simp only [go_sem, Nat.reduceEqDiff, Nat.reduceAdd, Nat.reduceSub, Nat.reduceMul, Nat.reduceLeDiff, Nat.reduceLT, reduceIte, reduceCtorEq, Nat.succ_ne_zero, elemsC, Int.reduceToNat, Nat.reducePow, i0, i1, i6, i5, iO]) | (simp (disch := (first | omega | (simp only [AL, List.length_map]; omega))) only [AR, AL, ifT, ifF, take_all, List.length_cons, List.length_nil, Int.reduceToNat, Int.reducePow, Nat.reducePow, i0, i1, i6, i5, iO]) | (refine wk_intro (by kernel_rfl) ?_))
    refine ro_ref (cs := rowsC (fun j => X ^ j) (i + 1)) (by decide) ?_ ?_
    · simp only [go_sem, Nat.reduceEqDiff, Nat.reduceAdd, Nat.reduceSub, Nat.reduceMul, Nat.reduceLeDiff, Nat.reduceLT, reduceIte, reduceCtorEq, Nat.succ_ne_zero, elemsC, Int.reduceToNat, Nat.reducePow, i5, iO]
    · rw [List.drop_zero, Nat.mul_one, List.take_of_length_le (Nat.le_of_eq (rows_len _ _))]
  · have hat := rows_at (fun j => X ^ j) (i := i + 1) (j := i) (by omega)
    have hsn := rows_snoc (fun j => X ^ j) (i + 1)
    have hl1 := lp i (by omega)
    have hM := ref1_MulL (N := X ^ i) (D := X) (by omega) (by omega)
    rw [← Nat.pow_succ] at hM
    repeat (first | (simp only [go_sem, Nat.reduceEqDiff, Nat.reduceAdd, Nat.reduceSub, Nat.reduceMul, Nat.reduceLeDiff, Nat.reduceLT, reduceIte, reduceCtorEq, Nat.succ_ne_zero, elemsC, Int.reduceToNat, Nat.reducePow, i0, i1, i6, i5, iO, N0, hat, hsn, hlen]) | (simp (disch := (first | omega | (simp only [AL, List.length_map]; omega))) only [AR, AL, ifT, ifF, take_all, List.length_cons, List.length_nil, Int.reduceToNat, Int.reducePow, Nat.reducePow, i0, i1, i6, i5, iO, N0, hat, hsn, hlen]) | (refine wk_intro (by kernel_rfl) ?_) | (refine vf_of (by first | exact hM) ?_))
    exact ⟨⟨i + 1, by omega, rfl, rfl, rfl⟩, by omega⟩
end Go.Proofs.YtdnmhnjblgkjaaaGreat

/- vernierref13.parts, Least, BinomCdf, in the evaluator. -/
namespace Go.Proofs.YtdnmhnjblgkjaaaGreat
set_option linter.unusedSimpArgs false
set_option linter.unusedVariables false
set_option maxRecDepth 8000
open Go.Ev
theorem rv_nat (c : Nat) : rv ((c : Nat) : Rat) = ratV false (lim c) (lim 1) := by
  show ratV (decide (((c : Nat) : Rat).num < 0)) (lim ((c : Nat) : Rat).num.natAbs) (lim ((c : Nat) : Rat).den) = _
  rw [Rat.num_natCast, Rat.den_natCast, Int.natAbs_natCast, decide_eq_false (by omega)]
theorem chR_in {n j : Nat} (h : j ≤ n) (hn : n ≤ 512) : chR (n : Int) (j : Int) = cc (n - j) j := by
  unfold chR
  rw [if_pos ⟨by omega, by omega, by omega, by omega⟩, show ((n : Int) - (j : Int)).toNat = n - j by omega, Int.toNat_natCast]
theorem ref13_parts {v : SV} {x : Rat} {L : Nat} {n : Nat} (hv : RatA v x L) (hL : 1 ≤ L) (hL2 : L ≤ 100) (hn : n ≤ 256) :
    Go.Ev.Fn CX 110 [.int .i64 (n : Int), v] (.tup [.sl (n + 1) (rowsC (termN x.num.natAbs (x.den - x.num.natAbs) n) (n + 1)), natV (lim (x.den ^ n))]) := by
  have hN := ref2_Norm hv (by omega)
  obtain ⟨z1, z2⟩ := szR_of hv hL
  obtain ⟨s, y, d, rfl, -⟩ := hv
  generalize hp : x.num.natAbs = p at *
  generalize hd : x.den = D at *
  have hS := ref1_SubL (N := D) (D := p) (by omega) (by omega)
  have hf := lim_len_mono (Nat.sub_le D p)
  generalize hff : D - p = f at *
  have p1 := ref13_powers (X := p) (n := n) hn (by omega)
  have p2 := ref13_powers (X := f) (n := n) hn (by omega)
  have p3 := ref13_powers (X := D) (n := n) hn (by omega)
  have tlast := rows_at (fun j => D ^ j) (i := n + 1) (j := n) (by omega)
  have l1 := rows_len (fun j => p ^ j) (n + 1)
  have l2 := rows_len (fun j => f ^ j) (n + 1)
  have l3 := rows_len (fun j => D ^ j) (n + 1)
  have pl : ∀ (X : Nat) (i : Nat), (lim X).length ≤ 100 → i ≤ n → (lim (X ^ i)).length ≤ 25601 := by
    intro X i hX hi
    have h1 := pow_lim_len X i
    have h2 : (lim X).length * i ≤ 100 * 256 := Nat.mul_le_mul hX (by omega)
    omega
  refine Go.Ev.Fn.intro (fn := Tryz.f110) (body := (Tryz.f110).body.get!) (by kernel_rfl) (by kernel_rfl) (by kernel_rfl) (fun _ => rfl) (Nat.le_of_ble_eq_true (by kernel_rfl)) ?_; unfold Tryz.f110; simp only [Option.get!_some]
  repeat (first | (simp only [go_sem, Nat.reduceEqDiff, Nat.reduceAdd, Nat.reduceSub, Nat.reduceMul, Nat.reduceLeDiff, Nat.reduceLT, reduceIte, reduceCtorEq, Nat.succ_ne_zero, elemsC, Int.reduceToNat, Nat.reducePow, hp, hd]) | (simp (disch := (first | omega | (simp only [AL, List.length_map]; omega))) only [AR, AL, ifT, ifF, take_all, List.length_cons, List.length_nil, Int.reduceToNat, Int.reducePow, Nat.reducePow, hp, hd]) | (refine wk_intro (by kernel_rfl) ?_) | (refine vp_draw (id := 3) (l := [25, 7, 32]) (by kernel_rfl) ?_) | (refine vp_draw (id := 8) (l := [48, 54, 44, 55]) (by kernel_rfl) ?_) | (refine vp_draw (id := 9) (l := []) (by kernel_rfl) ?_) | (refine vf_of (by first | exact hN | exact hS | exact p1 | exact p2 | exact p3) ?_))
  refine vp_loop_inv (fun s => s.tmp 0 = .sv (.int .i64 (n : Int)) ∧ s.tmp 9 = .sv (.sl (n + 1) (rowsC (fun j => p ^ j) (n + 1))) ∧ s.tmp 10 = .sv (.sl (n + 1) (rowsC (fun j => f ^ j) (n + 1))) ∧ s.tmp 11 = .sv (.sl (n + 1) (rowsC (fun j => D ^ j) (n + 1))) ∧
      ∃ j : Nat, s.tmp 13 = .sv (.int .i64 (j : Int)) ∧ j ≤ n + 1 ∧ ((j = 0 ∧ s.tmp 12 = .nil ∧ s.gen 58 = 0 ∧ s.tmp 44 = .undef ∧ s.tmp 48 = .undef ∧ s.tmp 54 = .undef ∧ s.tmp 55 = .undef) ∨
        (0 < j ∧ s.tmp 12 = .ref 58 0 1 0 j ∧ s.obj 58 0 = some (rowsC (termN p f n) j) ∧ ∃ w x y z, s.tmp 44 = .sv w ∧ s.tmp 48 = .sv x ∧ s.tmp 54 = .sv y ∧ s.tmp 55 = .sv z)))
    (fun s => match s.tmp 13 with | .sv (.int _ i) => n + 1 - i.toNat | _ => 0) ⟨rfl, rfl, rfl, rfl, 0, rfl, by omega, .inl ⟨rfl, rfl, rfl, rfl, rfl, rfl, rfl⟩⟩ ?_
  rintro s2 ⟨i0, i9, i10, i11, j, i13, hj, hl⟩
  by_cases hend : j = n + 1
  · subst hend
    rcases hl with ⟨h0, _⟩ | ⟨_, j12, jL, -⟩
    · omega
    · repeat (first | (simp only [go_sem, Nat.reduceEqDiff, Nat.reduceAdd, Nat.reduceSub, Nat.reduceMul, Nat.reduceLeDiff, Nat.reduceLT, reduceIte, reduceCtorEq, Nat.succ_ne_zero, elemsC, Int.reduceToNat, Nat.reducePow, i0, i9, i10, i11, i13, j12, jL, tlast, l3]) | (simp (disch := (first | omega | (simp only [AL, List.length_map]; omega))) only [AR, AL, ifT, ifF, take_all, List.length_cons, List.length_nil, Int.reduceToNat, Int.reducePow, Nat.reducePow, i0, i9, i10, i11, i13, j12, jL, tlast, l3]) | (refine wk_intro (by kernel_rfl) ?_) | (refine vp_draw (id := 3) (l := [25, 7, 32]) (by kernel_rfl) ?_) | (refine vp_draw (id := 8) (l := [48, 54, 44, 55]) (by kernel_rfl) ?_) | (refine vp_draw (id := 9) (l := []) (by kernel_rfl) ?_))
      refine ro_ref (cs := rowsC (termN p f n) (n + 1)) (by decide) ?_ ?_
      · simp only [go_sem, Nat.reduceEqDiff, Nat.reduceAdd, Nat.reduceSub, Nat.reduceMul, Nat.reduceLeDiff, Nat.reduceLT, reduceIte, reduceCtorEq, Nat.succ_ne_zero, elemsC, Int.reduceToNat, Nat.reducePow, j12, jL]
      · rw [List.drop_zero, Nat.mul_one, List.take_of_length_le (Nat.le_of_eq (rows_len _ _))]
  · have hjn : j ≤ n := by omega
    have a1 := rows_at (fun j => p ^ j) (i := n + 1) (j := j) (by omega)
    have a2 := rows_at (fun j => f ^ j) (i := n + 1) (j := n - j) (by omega)
    have hsn := rows_snoc (termN p f n) j
    have hrl := rows_len (termN p f n) j
    have lp := pl p j (by omega) hjn
    have lf := pl f (n - j) (by omega) (by omega)
    have hCh := ref9_Choose (n : Int) (j : Int) (by omega) (by omega)
    rw [chR_in hjn (by omega), rv_nat] at hCh
    have lc := cc_lim (m := n - j) (k := j) (by omega)
    have m1 := ref1_MulL (N := p ^ j) (D := f ^ (n - j)) (by omega) (by omega)
    have lm := lim_len_mul (a := p ^ j) (b := f ^ (n - j))
    have m2 := ref1_MulL (N := cc (n - j) j) (D := p ^ j * f ^ (n - j)) (by omega) (by omega)
    rw [← Nat.mul_assoc, show cc (n - j) j * p ^ j * f ^ (n - j) = termN p f n j from rfl] at m2
    clear lc lm lp lf pl
    rcases hl with ⟨h0, j12, jg, k1, k2, k3, k4⟩ | ⟨hj0, j12, jL, w, x', y', z, k1, k2, k3, k4⟩
    · subst h0
      rw [List.drop_zero] at a1
      simp only [Nat.sub_zero] at a2 m1 m2 hCh
      repeat (first | (simp only [go_sem, Nat.reduceEqDiff, Nat.reduceAdd, Nat.reduceSub, Nat.reduceMul, Nat.reduceLeDiff, Nat.reduceLT, reduceIte, reduceCtorEq, Nat.succ_ne_zero, elemsC, Int.reduceToNat, Nat.reducePow, i0, i9, i10, i11, i13, j12, jg, N0, a1, a2, l1, l2, k1, k2, k3, k4, hsn, hrl]) | (simp (disch := (first | omega | (simp only [AL, List.length_map]; omega))) only [AR, AL, ifT, ifF, take_all, List.length_cons, List.length_nil, Int.reduceToNat, Int.reducePow, Nat.reducePow, i0, i9, i10, i11, i13, j12, jg, N0, a1, a2, l1, l2, k1, k2, k3, k4, hsn, hrl]) | (refine wk_intro (by kernel_rfl) ?_) | (refine vp_draw (id := 3) (l := [25, 7, 32]) (by kernel_rfl) ?_) | (refine vp_draw (id := 8) (l := [48, 54, 44, 55]) (by kernel_rfl) ?_) | (refine vp_draw (id := 9) (l := []) (by kernel_rfl) ?_) | (refine vf_of (by first | exact hCh | exact m1 | exact m2) ?_))
      exact ⟨⟨1, rfl, by omega, .inr ⟨by omega, rfl, rfl, _, _, _, _, rfl, rfl, rfl, rfl⟩⟩, by omega⟩
    · repeat (first | (simp only [go_sem, Nat.reduceEqDiff, Nat.reduceAdd, Nat.reduceSub, Nat.reduceMul, Nat.reduceLeDiff, Nat.reduceLT, reduceIte, reduceCtorEq, Nat.succ_ne_zero, elemsC, Int.reduceToNat, Nat.reducePow, i0, i9, i10, i11, i13, j12, jL, N0, a1, a2, l1, l2, k1, k2, k3, k4]) | (simp (disch := (first | omega | (simp only [AL, List.length_map]; omega))) only [AR, AL, ifT, ifF, take_all, List.length_cons, List.length_nil, Int.reduceToNat, Int.reducePow, Nat.reducePow, i0, i9, i10, i11, i13, j12, jL, N0, a1, a2, l1, l2, k1, k2, k3, k4]) | (refine wk_intro (by kernel_rfl) ?_) | (refine vp_draw (id := 3) (l := [25, 7, 32]) (by kernel_rfl) ?_) | (refine vp_draw (id := 8) (l := [48, 54, 44, 55]) (by kernel_rfl) ?_) | (refine vp_draw (id := 9) (l := []) (by kernel_rfl) ?_))
      repeat (first | (simp only [go_sem, Nat.reduceEqDiff, Nat.reduceAdd, Nat.reduceSub, Nat.reduceMul, Nat.reduceLeDiff, Nat.reduceLT, reduceIte, reduceCtorEq, Nat.succ_ne_zero, elemsC, Int.reduceToNat, Nat.reducePow, i0, i9, i10, i11, i13, j12, jL, N0, a1, a2, l1, l2, hsn, hrl]) | (simp (disch := (first | omega | (simp only [AL, List.length_map]; omega))) only [AR, AL, ifT, ifF, take_all, List.length_cons, List.length_nil, Int.reduceToNat, Int.reducePow, Nat.reducePow, i0, i9, i10, i11, i13, j12, jL, N0, a1, a2, l1, l2, hsn, hrl]) | (refine wk_intro (by kernel_rfl) ?_) | (refine vp_draw (id := 3) (l := [25, 7, 32]) (by kernel_rfl) ?_) | (refine vp_draw (id := 8) (l := [48, 54, 44, 55]) (by kernel_rfl) ?_) | (refine vp_draw (id := 9) (l := []) (by kernel_rfl) ?_) | (refine vf_of (by first | exact hCh | exact m1 | exact m2) ?_))
      exact ⟨⟨j + 1, rfl, by omega, .inr ⟨by omega, rfl, rfl, _, _, _, _, rfl, rfl, rfl, rfl⟩⟩, by omega⟩
theorem sum_lens {p f n : Nat} (hn : n ≤ 256) (hp : (lim p).length ≤ 100) (hf : (lim f).length ≤ 100) : ∀ j, j ≤ n + 1 → (lim (sumN p f n j)).length ≤ 90000 + j := by
  intro j
  induction j with
  | zero => intro _; rw [show sumN p f n 0 = 0 from rfl, lim_zero]; simp
  | succ j ih =>
    intro hj
    exact lim_len_add2 (L := 90000 + j) (ih (by omega)) (Nat.le_trans (term_len hn hp hf j (by omega)) (Nat.le_add_right _ _))
theorem cmpN_ge' {a b : Nat} : decide (cmpN a b ≥ 0) = decide (b ≤ a) := by
  unfold cmpN
  by_cases h : a < b
  · rw [if_pos h, decide_eq_false (show ¬ b ≤ a by omega)]; rfl
  · rw [if_neg h, decide_eq_true (show b ≤ a by omega)]; split <;> rfl
end Go.Proofs.YtdnmhnjblgkjaaaGreat

/- disc.BinomTwo, vernierref13.BinomTwo, in the evaluator. -/
namespace Go.Proofs.YtdnmhnjblgkjaaaGreat
set_option linter.unusedSimpArgs false
set_option linter.unusedVariables false
set_option maxRecDepth 8000
open Go.Ev
/-- A row of naturals. -/
def natsC (l : List Nat) : List SV := l.map fun t => natV (lim t)
theorem natsC_len (l : List Nat) : (natsC l).length = l.length := List.length_map _
theorem natsC_rows (l : List Nat) : natsC l = rowsC (fun j => l.getD j 0) l.length := by
  unfold natsC
  refine List.ext_getElem (by simp) fun j h1 h2 => ?_
  have hj : j < l.length := by simpa using h1
  rw [List.getElem_map, List.getElem_map, List.getElem_range]
  show natV (lim l[j]) = natV (lim (l.getD j 0))
  rw [List.getD_eq_getElem?_getD, List.getElem?_eq_getElem hj]
  rfl
/-- Those that are at most so great. -/
def selL (T : Nat → Nat) (c : Nat) : Nat → List Nat
  | 0 => []
  | i + 1 => if T i ≤ c then selL T c i ++ [T i] else selL T c i
theorem selL_len (T : Nat → Nat) (c : Nat) : ∀ i, (selL T c i).length ≤ i
  | 0 => Nat.le_refl 0
  | i + 1 => by
    have := selL_len T c i
    unfold selL
    split
    · rw [List.length_append]; simp; omega
    · omega
theorem selL_mem {T : Nat → Nat} {c : Nat} : ∀ {i x}, x ∈ selL T c i → ∃ j, j < i ∧ x = T j
  | 0, x, h => by cases h
  | i + 1, x, h => by
    unfold selL at h
    split at h
    · rcases List.mem_append.1 h with h | h
      · obtain ⟨j, hj, e⟩ := selL_mem h
        exact ⟨j, by omega, e⟩
      · rw [List.mem_singleton] at h
        exact ⟨i, by omega, h⟩
    · obtain ⟨j, hj, e⟩ := selL_mem h
      exact ⟨j, by omega, e⟩
def selS (T : Nat → Nat) (c : Nat) : Nat → Nat
  | 0 => 0
  | i + 1 => if T i ≤ c then selS T c i + T i else selS T c i
theorem selS_lim {T : Nat → Nat} {c n : Nat} (h : ∀ j, j ≤ n → (lim (T j)).length ≤ 90000) : ∀ i, i ≤ n + 1 → (lim (selS T c i)).length ≤ 90000 + i
  | 0, _ => by rw [show selS T c 0 = 0 from rfl, lim_zero]; simp
  | i + 1, hi => by
    have := selS_lim (c := c) h i (by omega)
    have h2 := h i (by omega)
    unfold selS
    split
    · have := lim_len_add2 (a := selS T c i) (b := T i) (L := 90000 + i) this (by omega); omega
    · omega
/-- The first ones of a row together. -/
def preS (l : List Nat) : Nat → Nat
  | 0 => 0
  | i + 1 => preS l i + l.getD i 0
theorem preS_lim {l : List Nat} (h : ∀ x ∈ l, (lim x).length ≤ 90000) : ∀ i, (lim (preS l i)).length ≤ 90000 + i
  | 0 => by rw [show preS l 0 = 0 from rfl, lim_zero]; simp
  | i + 1 => by
    have h1 := preS_lim h i
    have h2 : (lim (l.getD i 0)).length ≤ 90000 := by
      rw [List.getD_eq_getElem?_getD]
      by_cases hi : i < l.length
      · rw [List.getElem?_eq_getElem hi]; exact h _ (List.getElem_mem hi)
      · rw [List.getElem?_eq_none (by omega)]; show (lim 0).length ≤ _; rw [lim_zero]; simp
    have := lim_len_add2 (a := preS l i) (b := l.getD i 0) (L := 90000 + i) h1 (by omega)
    show (lim (preS l i + l.getD i 0)).length ≤ _
    omega
theorem cmpN_le' {a b : Nat} : decide (cmpN a b ≤ 0) = decide (a ≤ b) := by
  unfold cmpN
  by_cases h : a < b
  · rw [if_pos h, decide_eq_true (show a ≤ b by omega)]; rfl
  · rw [if_neg h]
    by_cases h2 : a = b
    · rw [if_pos h2, decide_eq_true (show a ≤ b by omega)]; rfl
    · rw [if_neg h2, decide_eq_false (show ¬ a ≤ b by omega)]; rfl
/-- Is a test of a chance asked of what may be? -/
def twoD (n k : Int) (x : Rat) : Bool := tryD n x && (decide (0 ≤ k) && decide (k ≤ n))
theorem twoD_false {n k : Int} {x : Rat} (h : twoD n k x = false) (ht : tryD n x = true) : k < 0 ∨ n < k := by
  unfold twoD at h
  rw [ht, Bool.true_and] at h
  by_cases h1 : 0 ≤ k
  · rw [decide_eq_true h1, Bool.true_and] at h
    have := of_decide_eq_false h
    omega
  · omega
theorem twoD_true {n k : Int} {x : Rat} (h : twoD n k x = true) : tryD n x = true ∧ 0 ≤ k ∧ k ≤ n ∧ n ≤ 256 ∧ 0 ≤ x ∧ x ≤ 1 := by
  unfold twoD tryD at *
  simp only [Bool.and_eq_true, decide_eq_true_eq] at h ⊢
  exact ⟨h.1, h.2.1, h.2.2, h.1.2.1, h.1.2.2.1, h.1.2.2.2⟩
set_option maxHeartbeats 1000000 in
theorem disc_BinomTwo {v : SV} {x : Rat} {L : Nat} {n k : Int} (hv : RatA v x L) (hL : 1 ≤ L) (hL2 : L ≤ 100) (hn : -9223372036854775808 ≤ n ∧ n < 9223372036854775808) (hk : -9223372036854775808 ≤ k ∧ k < 9223372036854775808) :
    ∃ q, Go.Ev.Fn CX 80 [.int .i64 n, .int .i64 k, v] (.tup [rv q, .bool (twoD n k x)]) := by
  have hT := disc_isTry (n := n) hv hL (by omega)
  have r0 := rat_Int 0 (by omega)
  cases h2 : twoD n k x
  · refine ⟨((0 : Int) : Rat), ?_⟩
    cases ht : tryD n x
    · rw [ht] at hT
      obtain ⟨s, y, d, rfl, -⟩ := hv
      refine Go.Ev.Fn.intro (fn := Tryz.f80) (body := (Tryz.f80).body.get!) (by kernel_rfl) (by kernel_rfl) (by kernel_rfl) (fun _ => rfl) (Nat.le_of_ble_eq_true (by kernel_rfl)) ?_; unfold Tryz.f80; simp only [Option.get!_some]
      repeat (first | (simp only [go_sem, Nat.reduceEqDiff, Nat.reduceAdd, Nat.reduceSub, Nat.reduceMul, Nat.reduceLeDiff, Nat.reduceLT, reduceIte, reduceCtorEq, Nat.succ_ne_zero, elemsC, Int.reduceToNat, Nat.reducePow, Bool.not_false, Bool.not_true]) | (simp (disch := (first | omega | (simp only [AL, List.length_map]; omega))) only [AR, AL, ifT, ifF, take_all, List.length_cons, List.length_nil, Int.reduceToNat, Int.reducePow, Nat.reducePow, Bool.not_false, Bool.not_true]) | (refine wk_intro (by kernel_rfl) ?_) | (refine vf_of (by first | exact hT | exact r0) ?_))
    · have hb := twoD_false h2 ht
      rw [ht] at hT
      obtain ⟨s, y, d, rfl, -⟩ := hv
      by_cases hk0 : k < 0
      · refine Go.Ev.Fn.intro (fn := Tryz.f80) (body := (Tryz.f80).body.get!) (by kernel_rfl) (by kernel_rfl) (by kernel_rfl) (fun _ => rfl) (Nat.le_of_ble_eq_true (by kernel_rfl)) ?_; unfold Tryz.f80; simp only [Option.get!_some]
        repeat (first | (simp only [go_sem, Nat.reduceEqDiff, Nat.reduceAdd, Nat.reduceSub, Nat.reduceMul, Nat.reduceLeDiff, Nat.reduceLT, reduceIte, reduceCtorEq, Nat.succ_ne_zero, elemsC, Int.reduceToNat, Nat.reducePow, Bool.not_false, Bool.not_true]) | (simp (disch := (first | omega | (simp only [AL, List.length_map]; omega))) only [AR, AL, ifT, ifF, take_all, List.length_cons, List.length_nil, Int.reduceToNat, Int.reducePow, Nat.reducePow, Bool.not_false, Bool.not_true]) | (refine wk_intro (by kernel_rfl) ?_) | (refine vf_of (by first | exact hT | exact r0) ?_))
      · have hkn : n < k := by omega
        refine Go.Ev.Fn.intro (fn := Tryz.f80) (body := (Tryz.f80).body.get!) (by kernel_rfl) (by kernel_rfl) (by kernel_rfl) (fun _ => rfl) (Nat.le_of_ble_eq_true (by kernel_rfl)) ?_; unfold Tryz.f80; simp only [Option.get!_some]
        repeat (first | (simp only [go_sem, Nat.reduceEqDiff, Nat.reduceAdd, Nat.reduceSub, Nat.reduceMul, Nat.reduceLeDiff, Nat.reduceLT, reduceIte, reduceCtorEq, Nat.succ_ne_zero, elemsC, Int.reduceToNat, Nat.reducePow, Bool.not_false, Bool.not_true]) | (simp (disch := (first | omega | (simp only [AL, List.length_map]; omega))) only [AR, AL, ifT, ifF, take_all, List.length_cons, List.length_nil, Int.reduceToNat, Int.reducePow, Nat.reducePow, Bool.not_false, Bool.not_true]) | (refine wk_intro (by kernel_rfl) ?_) | (refine vf_of (by first | exact hT | exact r0) ?_))
  · obtain ⟨ht, hk0, hkn, hn2, hx0, hx1⟩ := twoD_true h2
    rw [ht] at hT
    obtain ⟨N, rfl⟩ : ∃ N : Nat, n = (N : Int) := ⟨n.toNat, by omega⟩
    obtain ⟨K, rfl⟩ : ∃ K : Nat, k = (K : Int) := ⟨k.toNat, by omega⟩
    obtain ⟨hab, -⟩ := unit_num hx0 hx1
    have tr := disc_tries (n := N) (k := N) hv hL hL2 (by omega) (by omega) hab
    obtain ⟨z1, z2⟩ := szR_of hv hL
    have hf := lim_len_mono (Nat.sub_le x.den x.num.natAbs)
    have tl := fun j (hj : j ≤ N) => term_len (p := x.num.natAbs) (f := x.den - x.num.natAbs) (n := N) (by omega) (by omega) (by omega) j hj
    have hlen := rows_len (termN x.num.natAbs (x.den - x.num.natAbs) N) (N + 1)
    have hall := fun j (hj : j < N + 1) => rows_at (termN x.num.natAbs (x.den - x.num.natAbs) N) (i := N + 1) (j := j) hj
    generalize hTT : termN x.num.natAbs (x.den - x.num.natAbs) N = T at *
    have hsm : ∀ y ∈ selL T (T K) (N + 1), (lim y).length ≤ 90000 := by
      intro y hy
      obtain ⟨j, hj, rfl⟩ := selL_mem hy
      exact tl j (by omega)
    have hsl := selL_len T (T K)
    have hK := hsl (N + 1)
    have sm := disc_sum (n := N) (k := (selL T (T K) (N + 1)).length) (g := fun j => (selL T (T K) (N + 1)).getD j 0) (S := preS (selL T (T K) (N + 1))) hv hL hL2 (by omega) (by omega) rfl (fun _ => rfl)
      (fun j hj => hsm _ (by rw [List.getD_eq_getElem?_getD, List.getElem?_eq_getElem hj]; exact List.getElem_mem hj)) (fun j hj => by have := preS_lim hsm j; omega)
    rw [← natsC_rows] at sm
    refine ⟨mkRat ((preS (selL T (T K) (N + 1)) (selL T (T K) (N + 1)).length : Nat) : Int) (x.den ^ N), ?_⟩
    generalize mkRat ((preS (selL T (T K) (N + 1)) (selL T (T K) (N + 1)).length : Nat) : Int) (x.den ^ N) = qq at *
    obtain ⟨s, y, d, rfl, -⟩ := hv
    have hatK := hall K (by omega)
    have tlK := tl K (by omega)
    generalize rowsC T (N + 1) = rc at *
    refine Go.Ev.Fn.intro (fn := Tryz.f80) (body := (Tryz.f80).body.get!) (by kernel_rfl) (by kernel_rfl) (by kernel_rfl) (fun _ => rfl) (Nat.le_of_ble_eq_true (by kernel_rfl)) ?_; unfold Tryz.f80; simp only [Option.get!_some]
    repeat (first | (simp only [go_sem, Nat.reduceEqDiff, Nat.reduceAdd, Nat.reduceSub, Nat.reduceMul, Nat.reduceLeDiff, Nat.reduceLT, reduceIte, reduceCtorEq, Nat.succ_ne_zero, elemsC, Int.reduceToNat, Nat.reducePow, Bool.not_false, Bool.not_true]) | (simp (disch := (first | omega | (simp only [AL, List.length_map]; omega))) only [AR, AL, ifT, ifF, take_all, List.length_cons, List.length_nil, Int.reduceToNat, Int.reducePow, Nat.reducePow, Bool.not_false, Bool.not_true]) | (refine wk_intro (by kernel_rfl) ?_) | (refine vf_of (by first | exact hT | exact tr) ?_))
    refine vp_loop_inv (fun s' => s'.tmp 0 = .sv (.int .i64 (N : Int)) ∧ s'.tmp 1 = .sv (.int .i64 (K : Int)) ∧ s'.tmp 5 = .ptr 5 0 0 ∧ s'.obj 5 0 = some [.bool s, natV y, natV d] ∧ s'.tmp 6 = .ptr 6 0 0 ∧ s'.obj 6 0 = some [.bool false, .sl 0 [], .sl 0 []] ∧ s'.tmp 8 = .sv (.sl (N + 1) rc) ∧ s'.tmp 30 = .sv (.sl (N + 1) rc) ∧ s'.tmp 31 = .sv (.int .i64 ((N + 1 : Nat) : Int)) ∧
        ∃ i : Nat, s'.tmp 32 = .sv (.int .i64 (i : Int)) ∧ i ≤ N + 1 ∧ (((selL T (T K) i).length = 0 ∧ s'.tmp 9 = .nil ∧ s'.gen 46 = 0) ∨ (0 < (selL T (T K) i).length ∧ s'.tmp 9 = .ref 46 0 1 0 (selL T (T K) i).length ∧ s'.obj 46 0 = some (natsC (selL T (T K) i)))))
      (fun s => match s.tmp 32 with | .sv (.int _ i) => N + 1 - i.toNat | _ => 0) ⟨rfl, rfl, rfl, rfl, rfl, rfl, rfl, rfl, rfl, 0, rfl, by omega, .inl ⟨rfl, rfl, rfl⟩⟩ ?_
    rintro s2 ⟨i0, i1, i5, o5, i6, o6, i8, i30, i31, i, i32, hi, hc⟩
    by_cases hend : i = N + 1
    · subst hend
      have hnl := natsC_len (selL T (T K) (N + 1))
      generalize natsC (selL T (T K) (N + 1)) = nc at *
      generalize (selL T (T K) (N + 1)).length = r at *
      rcases hc with ⟨h0, i9, _⟩ | ⟨h0, i9, o9⟩
      · have hn0 : nc = [] := List.eq_nil_of_length_eq_zero (by omega)
        rw [h0, hn0] at sm
        clear hall hsm hsl tl
        repeat (first | (simp only [go_sem, Nat.reduceEqDiff, Nat.reduceAdd, Nat.reduceSub, Nat.reduceMul, Nat.reduceLeDiff, Nat.reduceLT, reduceIte, reduceCtorEq, Nat.succ_ne_zero, elemsC, Int.reduceToNat, Nat.reducePow, i0, i1, i5, o5, i6, o6, i8, i30, i31, i32, i9]) | (simp (disch := (first | omega | (simp only [AL, List.length_map]; omega))) only [AR, AL, ifT, ifF, take_all, List.length_cons, List.length_nil, Int.reduceToNat, Int.reducePow, Nat.reducePow, i0, i1, i5, o5, i6, o6, i8, i30, i31, i32, i9]) | (refine wk_intro (by kernel_rfl) ?_) | (refine vf_of (by first | exact sm) ?_))
      · have htk : nc.take r = nc := List.take_of_length_le (by omega)
        clear hall hsm hsl tl
        repeat (first | (simp only [go_sem, Nat.reduceEqDiff, Nat.reduceAdd, Nat.reduceSub, Nat.reduceMul, Nat.reduceLeDiff, Nat.reduceLT, reduceIte, reduceCtorEq, Nat.succ_ne_zero, elemsC, Int.reduceToNat, Nat.reducePow, i0, i1, i5, o5, i6, o6, i8, i30, i31, i32, i9, o9, htk, List.drop_zero, N0]) | (simp (disch := (first | omega | (simp only [AL, List.length_map]; omega))) only [AR, AL, ifT, ifF, take_all, List.length_cons, List.length_nil, Int.reduceToNat, Int.reducePow, Nat.reducePow, i0, i1, i5, o5, i6, o6, i8, i30, i31, i32, i9, o9, htk, List.drop_zero, N0]) | (refine wk_intro (by kernel_rfl) ?_) | (refine vf_of (by first | exact sm) ?_))
    · have g1 := hall i (by omega)
      have tli := tl i (by omega)
      have hc1 := nat_CmpL (N := T i) (D := T K) (by omega) (by omega)
      have ec : decide (cmpN (T i) (T K) ≤ 0) = decide (T i ≤ T K) := cmpN_le'
      have hsli := hsl i
      have hnl := natsC_len (selL T (T K) i)
      have hsel : selL T (T K) (i + 1) = if T i ≤ T K then selL T (T K) i ++ [T i] else selL T (T K) i := rfl
      generalize hE : selL T (T K) i = l at *
      by_cases hle : T i ≤ T K
      · rw [if_pos hle] at hsel
        rw [decide_eq_true hle] at ec
        have hn2' : natsC (selL T (T K) (i + 1)) = natsC l ++ [natV (lim (T i))] := by rw [hsel]; unfold natsC; rw [List.map_append]; rfl
        have hl2 : (selL T (T K) (i + 1)).length = l.length + 1 := by rw [hsel]; simp
        generalize hF : selL T (T K) (i + 1) = l' at *
        clear hall hsm hsl tl sm hsel hle
        generalize natsC l = nc at *
        generalize l.length = r at *
        rcases hc with ⟨h0, i9, ig⟩ | ⟨h0, i9, o9⟩
        · have hn0 : nc = [] := List.eq_nil_of_length_eq_zero (by omega)
          subst hn0 h0
          repeat (first | (simp only [go_sem, Nat.reduceEqDiff, Nat.reduceAdd, Nat.reduceSub, Nat.reduceMul, Nat.reduceLeDiff, Nat.reduceLT, reduceIte, reduceCtorEq, Nat.succ_ne_zero, elemsC, Int.reduceToNat, Nat.reducePow, i0, i1, i5, o5, i6, o6, i8, i30, i31, i32, i9, ig, g1, hatK, hlen, N0, ec]) | (simp (disch := (first | omega | (simp only [AL, List.length_map]; omega))) only [AR, AL, ifT, ifF, take_all, List.length_cons, List.length_nil, Int.reduceToNat, Int.reducePow, Nat.reducePow, i0, i1, i5, o5, i6, o6, i8, i30, i31, i32, i9, ig, g1, hatK, hlen, N0, ec]) | (refine wk_intro (by kernel_rfl) ?_) | (refine vf_of (by first | exact hc1) ?_))
          exact ⟨⟨i + 1, rfl, by omega, .inr (by rw [hF, hl2, hn2']; exact ⟨by omega, rfl, rfl⟩)⟩, by omega⟩
        · repeat (first | (simp only [go_sem, Nat.reduceEqDiff, Nat.reduceAdd, Nat.reduceSub, Nat.reduceMul, Nat.reduceLeDiff, Nat.reduceLT, reduceIte, reduceCtorEq, Nat.succ_ne_zero, elemsC, Int.reduceToNat, Nat.reducePow, i0, i1, i5, o5, i6, o6, i8, i30, i31, i32, i9, o9, g1, hatK, hlen, N0]) | (simp (disch := (first | omega | (simp only [AL, List.length_map]; omega))) only [AR, AL, ifT, ifF, take_all, List.length_cons, List.length_nil, Int.reduceToNat, Int.reducePow, Nat.reducePow, i0, i1, i5, o5, i6, o6, i8, i30, i31, i32, i9, o9, g1, hatK, hlen, N0]) | (refine wk_intro (by kernel_rfl) ?_))
          refine vf_of (hc1) ?_; repeat (first | (simp only [go_sem, Nat.reduceEqDiff, Nat.reduceAdd, Nat.reduceSub, Nat.reduceMul, Nat.reduceLeDiff, Nat.reduceLT, reduceIte, reduceCtorEq, Nat.succ_ne_zero, elemsC, Int.reduceToNat, Nat.reducePow, i0, i1, i5, o5, i6, o6, i8, i30, i31, i32, i9, o9, g1, hatK, hlen, N0, ec, hnl]) | (simp (disch := (first | omega | (simp only [AL, List.length_map]; omega))) only [AR, AL, ifT, ifF, take_all, List.length_cons, List.length_nil, Int.reduceToNat, Int.reducePow, Nat.reducePow, i0, i1, i5, o5, i6, o6, i8, i30, i31, i32, i9, o9, g1, hatK, hlen, N0, ec, hnl]) | (refine wk_intro (by kernel_rfl) ?_))
          exact ⟨⟨i + 1, rfl, by omega, .inr (by rw [hF, hl2, hn2']; exact ⟨by omega, rfl, rfl⟩)⟩, by omega⟩
      · rw [if_neg hle] at hsel
        rw [decide_eq_false hle] at ec
        clear hall hsm hsl tl sm hle
        repeat (first | (simp only [go_sem, Nat.reduceEqDiff, Nat.reduceAdd, Nat.reduceSub, Nat.reduceMul, Nat.reduceLeDiff, Nat.reduceLT, reduceIte, reduceCtorEq, Nat.succ_ne_zero, elemsC, Int.reduceToNat, Nat.reducePow, i0, i1, i5, o5, i6, o6, i8, i30, i31, i32, g1, hatK, hlen, N0, ec]) | (simp (disch := (first | omega | (simp only [AL, List.length_map]; omega))) only [AR, AL, ifT, ifF, take_all, List.length_cons, List.length_nil, Int.reduceToNat, Int.reducePow, Nat.reducePow, i0, i1, i5, o5, i6, o6, i8, i30, i31, i32, g1, hatK, hlen, N0, ec]) | (refine wk_intro (by kernel_rfl) ?_) | (refine vf_of (by first | exact hc1) ?_))
        exact ⟨⟨i + 1, rfl, by omega, by rw [hsel]; exact hc⟩, by omega⟩
set_option maxHeartbeats 1000000 in
theorem ref13_BinomTwo {v : SV} {x : Rat} {L : Nat} {n k : Int} (hv : RatA v x L) (hL : 1 ≤ L) (hL2 : L ≤ 100) (hn : -9223372036854775808 ≤ n ∧ n < 9223372036854775808) (hk : -9223372036854775808 ≤ k ∧ k < 9223372036854775808) :
    ∃ q, Go.Ev.Fn CX 88 [.int .i64 n, .int .i64 k, v] (.tup [rv q, .bool (twoD n k x)]) := by
  have hT := ref13_bad (n := n) hv hL (by omega)
  have r0 := ref2_Int 0 (by omega)
  cases h2 : twoD n k x
  · refine ⟨((0 : Int) : Rat), ?_⟩
    cases ht : tryD n x
    · rw [ht, Bool.not_false] at hT
      obtain ⟨s, y, d, rfl, -⟩ := hv
      refine Go.Ev.Fn.intro (fn := Tryz.f88) (body := (Tryz.f88).body.get!) (by kernel_rfl) (by kernel_rfl) (by kernel_rfl) (fun _ => rfl) (Nat.le_of_ble_eq_true (by kernel_rfl)) ?_; unfold Tryz.f88; simp only [Option.get!_some]
      repeat (first | (simp only [go_sem, Nat.reduceEqDiff, Nat.reduceAdd, Nat.reduceSub, Nat.reduceMul, Nat.reduceLeDiff, Nat.reduceLT, reduceIte, reduceCtorEq, Nat.succ_ne_zero, elemsC, Int.reduceToNat, Nat.reducePow]) | (simp (disch := (first | omega | (simp only [AL, List.length_map]; omega))) only [AR, AL, ifT, ifF, take_all, List.length_cons, List.length_nil, Int.reduceToNat, Int.reducePow, Nat.reducePow]) | (refine wk_intro (by kernel_rfl) ?_) | (refine vp_draw (id := 8) (l := [39, 43]) (by kernel_rfl) ?_) | (refine vf_of (by first | exact hT | exact r0) ?_))
    · have hb := twoD_false h2 ht
      rw [ht, Bool.not_true] at hT
      obtain ⟨s, y, d, rfl, -⟩ := hv
      by_cases hk0 : k < 0
      · refine Go.Ev.Fn.intro (fn := Tryz.f88) (body := (Tryz.f88).body.get!) (by kernel_rfl) (by kernel_rfl) (by kernel_rfl) (fun _ => rfl) (Nat.le_of_ble_eq_true (by kernel_rfl)) ?_; unfold Tryz.f88; simp only [Option.get!_some]
        repeat (first | (simp only [go_sem, Nat.reduceEqDiff, Nat.reduceAdd, Nat.reduceSub, Nat.reduceMul, Nat.reduceLeDiff, Nat.reduceLT, reduceIte, reduceCtorEq, Nat.succ_ne_zero, elemsC, Int.reduceToNat, Nat.reducePow]) | (simp (disch := (first | omega | (simp only [AL, List.length_map]; omega))) only [AR, AL, ifT, ifF, take_all, List.length_cons, List.length_nil, Int.reduceToNat, Int.reducePow, Nat.reducePow]) | (refine wk_intro (by kernel_rfl) ?_) | (refine vp_draw (id := 8) (l := [39, 43]) (by kernel_rfl) ?_) | (refine vf_of (by first | exact hT | exact r0) ?_))
      · have hkn : n < k := by omega
        refine Go.Ev.Fn.intro (fn := Tryz.f88) (body := (Tryz.f88).body.get!) (by kernel_rfl) (by kernel_rfl) (by kernel_rfl) (fun _ => rfl) (Nat.le_of_ble_eq_true (by kernel_rfl)) ?_; unfold Tryz.f88; simp only [Option.get!_some]
        repeat (first | (simp only [go_sem, Nat.reduceEqDiff, Nat.reduceAdd, Nat.reduceSub, Nat.reduceMul, Nat.reduceLeDiff, Nat.reduceLT, reduceIte, reduceCtorEq, Nat.succ_ne_zero, elemsC, Int.reduceToNat, Nat.reducePow]) | (simp (disch := (first | omega | (simp only [AL, List.length_map]; omega))) only [AR, AL, ifT, ifF, take_all, List.length_cons, List.length_nil, Int.reduceToNat, Int.reducePow, Nat.reducePow]) | (refine wk_intro (by kernel_rfl) ?_) | (refine vp_draw (id := 8) (l := [39, 43]) (by kernel_rfl) ?_) | (refine vf_of (by first | exact hT | exact r0) ?_))
  · obtain ⟨ht, hk0, hkn, hn2, hx0, hx1⟩ := twoD_true h2
    rw [ht, Bool.not_true] at hT
    obtain ⟨N, rfl⟩ : ∃ N : Nat, n = (N : Int) := ⟨n.toNat, by omega⟩
    obtain ⟨K, rfl⟩ : ∃ K : Nat, k = (K : Int) := ⟨k.toNat, by omega⟩
    have tr := ref13_parts (n := N) hv hL hL2 (by omega)
    obtain ⟨z1, z2⟩ := szR_of hv hL
    have hf := lim_len_mono (Nat.sub_le x.den x.num.natAbs)
    have tl := fun j (hj : j ≤ N) => term_len (p := x.num.natAbs) (f := x.den - x.num.natAbs) (n := N) (by omega) (by omega) (by omega) j hj
    have hlen := rows_len (termN x.num.natAbs (x.den - x.num.natAbs) N) (N + 1)
    have hall := fun j (hj : j < N + 1) => rows_at (termN x.num.natAbs (x.den - x.num.natAbs) N) (i := N + 1) (j := j) hj
    have dl := pow_lim_len x.den N
    have dl2 : (lim x.den).length * N ≤ 100 * 256 := Nat.mul_le_mul (by omega) (by omega)
    generalize hTT : termN x.num.natAbs (x.den - x.num.natAbs) N = T at *
    have hsl := fun i (hi : i ≤ N + 1) => selS_lim (c := T K) tl i hi
    have hlast := hsl (N + 1) (by omega)
    have of := ref2_OfL (s := false) (n := selS T (T K) (N + 1)) (d := x.den ^ N) (by omega) (by omega)
    refine ⟨mkRat (sgn false (selS T (T K) (N + 1))) (x.den ^ N), ?_⟩
    generalize mkRat (sgn false (selS T (T K) (N + 1))) (x.den ^ N) = qq at *
    obtain ⟨s, y, d, rfl, -⟩ := hv
    have hatK := hall K (by omega)
    have tlK := tl K (by omega)
    have hs0 : selS T (T K) 0 = 0 := rfl
    generalize rowsC T (N + 1) = rc at *
    generalize x.den ^ N = E at *
    refine Go.Ev.Fn.intro (fn := Tryz.f88) (body := (Tryz.f88).body.get!) (by kernel_rfl) (by kernel_rfl) (by kernel_rfl) (fun _ => rfl) (Nat.le_of_ble_eq_true (by kernel_rfl)) ?_; unfold Tryz.f88; simp only [Option.get!_some]
    repeat (first | (simp only [go_sem, Nat.reduceEqDiff, Nat.reduceAdd, Nat.reduceSub, Nat.reduceMul, Nat.reduceLeDiff, Nat.reduceLT, reduceIte, reduceCtorEq, Nat.succ_ne_zero, elemsC, Int.reduceToNat, Nat.reducePow]) | (simp (disch := (first | omega | (simp only [AL, List.length_map]; omega))) only [AR, AL, ifT, ifF, take_all, List.length_cons, List.length_nil, Int.reduceToNat, Int.reducePow, Nat.reducePow]) | (refine wk_intro (by kernel_rfl) ?_) | (refine vp_draw (id := 8) (l := [39, 43]) (by kernel_rfl) ?_) | (refine vf_of (by first | exact hT | exact tr) ?_))
    refine vp_loop_inv (fun s' => s'.tmp 0 = .sv (.int .i64 (N : Int)) ∧ s'.tmp 1 = .sv (.int .i64 (K : Int)) ∧ s'.tmp 6 = .ptr 6 0 0 ∧ s'.obj 6 0 = some [.bool false, .sl 0 [], .sl 0 []] ∧ s'.tmp 8 = .sv (.sl (N + 1) rc) ∧ s'.tmp 9 = .sv (natV (lim E)) ∧ ((s'.tmp 39 = .undef ∧ s'.tmp 43 = .undef) ∨ ∃ u w, s'.tmp 39 = .sv u ∧ s'.tmp 43 = .sv w) ∧
        ∃ i : Nat, s'.tmp 11 = .sv (.int .i64 (i : Int)) ∧ i ≤ N + 1 ∧ ((selS T (T K) i = 0 ∧ s'.tmp 10 = .nil) ∨ s'.tmp 10 = .sv (natV (lim (selS T (T K) i)))))
      (fun s => match s.tmp 11 with | .sv (.int _ i) => N + 1 - i.toNat | _ => 0) ⟨rfl, rfl, rfl, rfl, rfl, rfl, .inl ⟨rfl, rfl⟩, 0, rfl, by omega, .inl ⟨rfl, rfl⟩⟩ ?_
    rintro s2 ⟨i0, i1, i6, o6, i8, i9, hu, i, i11, hi, hc⟩
    by_cases hend : i = N + 1
    · subst hend
      generalize selS T (T K) (N + 1) = S at *
      clear hall hsl tl
      rcases hc with ⟨h0, i10⟩ | i10
      · subst h0
        rw [lim_zero] at of
        repeat (first | (simp only [go_sem, Nat.reduceEqDiff, Nat.reduceAdd, Nat.reduceSub, Nat.reduceMul, Nat.reduceLeDiff, Nat.reduceLT, reduceIte, reduceCtorEq, Nat.succ_ne_zero, elemsC, Int.reduceToNat, Nat.reducePow, i0, i1, i6, o6, i8, i9, i11, i10]) | (simp (disch := (first | omega | (simp only [AL, List.length_map]; omega))) only [AR, AL, ifT, ifF, take_all, List.length_cons, List.length_nil, Int.reduceToNat, Int.reducePow, Nat.reducePow, i0, i1, i6, o6, i8, i9, i11, i10]) | (refine wk_intro (by kernel_rfl) ?_) | (refine vp_draw (id := 8) (l := [39, 43]) (by kernel_rfl) ?_) | (refine vf_of (by first | exact of) ?_))
      · repeat (first | (simp only [go_sem, Nat.reduceEqDiff, Nat.reduceAdd, Nat.reduceSub, Nat.reduceMul, Nat.reduceLeDiff, Nat.reduceLT, reduceIte, reduceCtorEq, Nat.succ_ne_zero, elemsC, Int.reduceToNat, Nat.reducePow, i0, i1, i6, o6, i8, i9, i11, i10]) | (simp (disch := (first | omega | (simp only [AL, List.length_map]; omega))) only [AR, AL, ifT, ifF, take_all, List.length_cons, List.length_nil, Int.reduceToNat, Int.reducePow, Nat.reducePow, i0, i1, i6, o6, i8, i9, i11, i10]) | (refine wk_intro (by kernel_rfl) ?_) | (refine vp_draw (id := 8) (l := [39, 43]) (by kernel_rfl) ?_))
        refine vf_of (of) ?_; repeat (first | (simp only [go_sem, Nat.reduceEqDiff, Nat.reduceAdd, Nat.reduceSub, Nat.reduceMul, Nat.reduceLeDiff, Nat.reduceLT, reduceIte, reduceCtorEq, Nat.succ_ne_zero, elemsC, Int.reduceToNat, Nat.reducePow, i0, i1, i6, o6, i8, i9, i11, i10]) | (simp (disch := (first | omega | (simp only [AL, List.length_map]; omega))) only [AR, AL, ifT, ifF, take_all, List.length_cons, List.length_nil, Int.reduceToNat, Int.reducePow, Nat.reducePow, i0, i1, i6, o6, i8, i9, i11, i10]) | (refine wk_intro (by kernel_rfl) ?_) | (refine vp_draw (id := 8) (l := [39, 43]) (by kernel_rfl) ?_))
    · have g1 := hall i (by omega)
      have tli := tl i (by omega)
      have hsi := hsl i (by omega)
      have hc1 := ref1_CmpL (N := T i) (D := T K) (by omega) (by omega)
      have ec : decide (cmpN (T i) (T K) ≤ 0) = decide (T i ≤ T K) := cmpN_le'
      have hsel : selS T (T K) (i + 1) = if T i ≤ T K then selS T (T K) i + T i else selS T (T K) i := rfl
      have ad := ref1_AddL (N := selS T (T K) i) (D := T i) (by omega) (by omega)
      by_cases hle : T i ≤ T K
      · rw [if_pos hle] at hsel
        rw [← hsel] at ad
        rw [decide_eq_true hle] at ec
        have fin : ∀ {A : Prop}, A → A := fun h => h
        clear hall hsl tl of hle fin hTT
        rcases hc with ⟨h0, i10⟩ | i10
        · rw [h0, lim_zero] at ad
          rcases hu with ⟨u1, u2⟩ | ⟨u, w, u1, u2⟩
          · repeat (first | (simp only [go_sem, Nat.reduceEqDiff, Nat.reduceAdd, Nat.reduceSub, Nat.reduceMul, Nat.reduceLeDiff, Nat.reduceLT, reduceIte, reduceCtorEq, Nat.succ_ne_zero, elemsC, Int.reduceToNat, Nat.reducePow, i0, i1, i6, o6, i8, i9, i11, i10, u1, u2, g1, hatK, hlen]) | (simp (disch := (first | omega | (simp only [AL, List.length_map]; omega))) only [AR, AL, ifT, ifF, take_all, List.length_cons, List.length_nil, Int.reduceToNat, Int.reducePow, Nat.reducePow, i0, i1, i6, o6, i8, i9, i11, i10, u1, u2, g1, hatK, hlen]) | (refine wk_intro (by kernel_rfl) ?_) | (refine vp_draw (id := 8) (l := [39, 43]) (by kernel_rfl) ?_))
            repeat (first | (simp only [go_sem, Nat.reduceEqDiff, Nat.reduceAdd, Nat.reduceSub, Nat.reduceMul, Nat.reduceLeDiff, Nat.reduceLT, reduceIte, reduceCtorEq, Nat.succ_ne_zero, elemsC, Int.reduceToNat, Nat.reducePow, i0, i1, i6, o6, i8, i9, i11, i10, g1, hatK, hlen, ec]) | (simp (disch := (first | omega | (simp only [AL, List.length_map]; omega))) only [AR, AL, ifT, ifF, take_all, List.length_cons, List.length_nil, Int.reduceToNat, Int.reducePow, Nat.reducePow, i0, i1, i6, o6, i8, i9, i11, i10, g1, hatK, hlen, ec]) | (refine wk_intro (by kernel_rfl) ?_) | (refine vp_draw (id := 8) (l := [39, 43]) (by kernel_rfl) ?_) | (refine vf_of (by first | exact hc1 | exact ad) ?_))
            exact ⟨⟨.inr ⟨_, _, rfl, rfl⟩, i + 1, rfl, by omega, .inr rfl⟩, by omega⟩
          · repeat (first | (simp only [go_sem, Nat.reduceEqDiff, Nat.reduceAdd, Nat.reduceSub, Nat.reduceMul, Nat.reduceLeDiff, Nat.reduceLT, reduceIte, reduceCtorEq, Nat.succ_ne_zero, elemsC, Int.reduceToNat, Nat.reducePow, i0, i1, i6, o6, i8, i9, i11, i10, u1, u2, g1, hatK, hlen]) | (simp (disch := (first | omega | (simp only [AL, List.length_map]; omega))) only [AR, AL, ifT, ifF, take_all, List.length_cons, List.length_nil, Int.reduceToNat, Int.reducePow, Nat.reducePow, i0, i1, i6, o6, i8, i9, i11, i10, u1, u2, g1, hatK, hlen]) | (refine wk_intro (by kernel_rfl) ?_) | (refine vp_draw (id := 8) (l := [39, 43]) (by kernel_rfl) ?_))
            repeat (first | (simp only [go_sem, Nat.reduceEqDiff, Nat.reduceAdd, Nat.reduceSub, Nat.reduceMul, Nat.reduceLeDiff, Nat.reduceLT, reduceIte, reduceCtorEq, Nat.succ_ne_zero, elemsC, Int.reduceToNat, Nat.reducePow, i0, i1, i6, o6, i8, i9, i11, i10, g1, hatK, hlen, ec]) | (simp (disch := (first | omega | (simp only [AL, List.length_map]; omega))) only [AR, AL, ifT, ifF, take_all, List.length_cons, List.length_nil, Int.reduceToNat, Int.reducePow, Nat.reducePow, i0, i1, i6, o6, i8, i9, i11, i10, g1, hatK, hlen, ec]) | (refine wk_intro (by kernel_rfl) ?_) | (refine vp_draw (id := 8) (l := [39, 43]) (by kernel_rfl) ?_) | (refine vf_of (by first | exact hc1 | exact ad) ?_))
            exact ⟨⟨.inr ⟨_, _, rfl, rfl⟩, i + 1, rfl, by omega, .inr rfl⟩, by omega⟩
        · rcases hu with ⟨u1, u2⟩ | ⟨u, w, u1, u2⟩
          · repeat (first | (simp only [go_sem, Nat.reduceEqDiff, Nat.reduceAdd, Nat.reduceSub, Nat.reduceMul, Nat.reduceLeDiff, Nat.reduceLT, reduceIte, reduceCtorEq, Nat.succ_ne_zero, elemsC, Int.reduceToNat, Nat.reducePow, i0, i1, i6, o6, i8, i9, i11, i10, u1, u2, g1, hatK, hlen]) | (simp (disch := (first | omega | (simp only [AL, List.length_map]; omega))) only [AR, AL, ifT, ifF, take_all, List.length_cons, List.length_nil, Int.reduceToNat, Int.reducePow, Nat.reducePow, i0, i1, i6, o6, i8, i9, i11, i10, u1, u2, g1, hatK, hlen]) | (refine wk_intro (by kernel_rfl) ?_) | (refine vp_draw (id := 8) (l := [39, 43]) (by kernel_rfl) ?_))
            repeat (first | (simp only [go_sem, Nat.reduceEqDiff, Nat.reduceAdd, Nat.reduceSub, Nat.reduceMul, Nat.reduceLeDiff, Nat.reduceLT, reduceIte, reduceCtorEq, Nat.succ_ne_zero, elemsC, Int.reduceToNat, Nat.reducePow, i0, i1, i6, o6, i8, i9, i11, i10, g1, hatK, hlen, ec]) | (simp (disch := (first | omega | (simp only [AL, List.length_map]; omega))) only [AR, AL, ifT, ifF, take_all, List.length_cons, List.length_nil, Int.reduceToNat, Int.reducePow, Nat.reducePow, i0, i1, i6, o6, i8, i9, i11, i10, g1, hatK, hlen, ec]) | (refine wk_intro (by kernel_rfl) ?_) | (refine vp_draw (id := 8) (l := [39, 43]) (by kernel_rfl) ?_) | (refine vf_of (by first | exact hc1 | exact ad) ?_))
            exact ⟨⟨.inr ⟨_, _, rfl, rfl⟩, i + 1, rfl, by omega, .inr rfl⟩, by omega⟩
          · repeat (first | (simp only [go_sem, Nat.reduceEqDiff, Nat.reduceAdd, Nat.reduceSub, Nat.reduceMul, Nat.reduceLeDiff, Nat.reduceLT, reduceIte, reduceCtorEq, Nat.succ_ne_zero, elemsC, Int.reduceToNat, Nat.reducePow, i0, i1, i6, o6, i8, i9, i11, i10, u1, u2, g1, hatK, hlen]) | (simp (disch := (first | omega | (simp only [AL, List.length_map]; omega))) only [AR, AL, ifT, ifF, take_all, List.length_cons, List.length_nil, Int.reduceToNat, Int.reducePow, Nat.reducePow, i0, i1, i6, o6, i8, i9, i11, i10, u1, u2, g1, hatK, hlen]) | (refine wk_intro (by kernel_rfl) ?_) | (refine vp_draw (id := 8) (l := [39, 43]) (by kernel_rfl) ?_))
            repeat (first | (simp only [go_sem, Nat.reduceEqDiff, Nat.reduceAdd, Nat.reduceSub, Nat.reduceMul, Nat.reduceLeDiff, Nat.reduceLT, reduceIte, reduceCtorEq, Nat.succ_ne_zero, elemsC, Int.reduceToNat, Nat.reducePow, i0, i1, i6, o6, i8, i9, i11, i10, g1, hatK, hlen, ec]) | (simp (disch := (first | omega | (simp only [AL, List.length_map]; omega))) only [AR, AL, ifT, ifF, take_all, List.length_cons, List.length_nil, Int.reduceToNat, Int.reducePow, Nat.reducePow, i0, i1, i6, o6, i8, i9, i11, i10, g1, hatK, hlen, ec]) | (refine wk_intro (by kernel_rfl) ?_) | (refine vp_draw (id := 8) (l := [39, 43]) (by kernel_rfl) ?_) | (refine vf_of (by first | exact hc1 | exact ad) ?_))
            exact ⟨⟨.inr ⟨_, _, rfl, rfl⟩, i + 1, rfl, by omega, .inr rfl⟩, by omega⟩
      · rw [if_neg hle] at hsel
        rw [decide_eq_false hle] at ec
        clear hall hsl tl of hle ad hTT
        rcases hu with ⟨u1, u2⟩ | ⟨u, w, u1, u2⟩
        · repeat (first | (simp only [go_sem, Nat.reduceEqDiff, Nat.reduceAdd, Nat.reduceSub, Nat.reduceMul, Nat.reduceLeDiff, Nat.reduceLT, reduceIte, reduceCtorEq, Nat.succ_ne_zero, elemsC, Int.reduceToNat, Nat.reducePow, i0, i1, i6, o6, i8, i9, i11, u1, u2, g1, hatK, hlen]) | (simp (disch := (first | omega | (simp only [AL, List.length_map]; omega))) only [AR, AL, ifT, ifF, take_all, List.length_cons, List.length_nil, Int.reduceToNat, Int.reducePow, Nat.reducePow, i0, i1, i6, o6, i8, i9, i11, u1, u2, g1, hatK, hlen]) | (refine wk_intro (by kernel_rfl) ?_) | (refine vp_draw (id := 8) (l := [39, 43]) (by kernel_rfl) ?_))
          refine vf_of (hc1) ?_; repeat (first | (simp only [go_sem, Nat.reduceEqDiff, Nat.reduceAdd, Nat.reduceSub, Nat.reduceMul, Nat.reduceLeDiff, Nat.reduceLT, reduceIte, reduceCtorEq, Nat.succ_ne_zero, elemsC, Int.reduceToNat, Nat.reducePow, i0, i1, i6, o6, i8, i9, i11, g1, hatK, hlen, ec]) | (simp (disch := (first | omega | (simp only [AL, List.length_map]; omega))) only [AR, AL, ifT, ifF, take_all, List.length_cons, List.length_nil, Int.reduceToNat, Int.reducePow, Nat.reducePow, i0, i1, i6, o6, i8, i9, i11, g1, hatK, hlen, ec]) | (refine wk_intro (by kernel_rfl) ?_) | (refine vp_draw (id := 8) (l := [39, 43]) (by kernel_rfl) ?_))
          exact ⟨⟨.inr ⟨_, _, rfl, rfl⟩, i + 1, rfl, by omega, by rw [hsel]; exact hc⟩, by omega⟩
        · repeat (first | (simp only [go_sem, Nat.reduceEqDiff, Nat.reduceAdd, Nat.reduceSub, Nat.reduceMul, Nat.reduceLeDiff, Nat.reduceLT, reduceIte, reduceCtorEq, Nat.succ_ne_zero, elemsC, Int.reduceToNat, Nat.reducePow, i0, i1, i6, o6, i8, i9, i11, u1, u2, g1, hatK, hlen]) | (simp (disch := (first | omega | (simp only [AL, List.length_map]; omega))) only [AR, AL, ifT, ifF, take_all, List.length_cons, List.length_nil, Int.reduceToNat, Int.reducePow, Nat.reducePow, i0, i1, i6, o6, i8, i9, i11, u1, u2, g1, hatK, hlen]) | (refine wk_intro (by kernel_rfl) ?_) | (refine vp_draw (id := 8) (l := [39, 43]) (by kernel_rfl) ?_))
          refine vf_of (hc1) ?_; repeat (first | (simp only [go_sem, Nat.reduceEqDiff, Nat.reduceAdd, Nat.reduceSub, Nat.reduceMul, Nat.reduceLeDiff, Nat.reduceLT, reduceIte, reduceCtorEq, Nat.succ_ne_zero, elemsC, Int.reduceToNat, Nat.reducePow, i0, i1, i6, o6, i8, i9, i11, g1, hatK, hlen, ec]) | (simp (disch := (first | omega | (simp only [AL, List.length_map]; omega))) only [AR, AL, ifT, ifF, take_all, List.length_cons, List.length_nil, Int.reduceToNat, Int.reducePow, Nat.reducePow, i0, i1, i6, o6, i8, i9, i11, g1, hatK, hlen, ec]) | (refine wk_intro (by kernel_rfl) ?_) | (refine vp_draw (id := 8) (l := [39, 43]) (by kernel_rfl) ?_))
          exact ⟨⟨.inr ⟨_, _, rfl, rfl⟩, i + 1, rfl, by omega, by rw [hsel]; exact hc⟩, by omega⟩
end Go.Proofs.YtdnmhnjblgkjaaaGreat

/- test.table, binom; vernierref19.table, binom, in the evaluator. -/
namespace Go.Proofs.YtdnmhnjblgkjaaaGreat
set_option linter.unusedSimpArgs false
set_option linter.unusedVariables false
set_option maxRecDepth 8000
open Go.Ev
/-- A table's statistic, row by row. -/
def flatL (T X : List (List Rat)) : List Rat := List.zipWith missR T X
def flatR (T X : List (List Rat)) : Rat := sumR (flatL T X)
def tabR (T : List (List Rat)) : Res :=
  if (expR T).2 ≠ 0 then (0, [], (expR T).2) else (flatR T (expR T).1, [((T.length : Int) - 1) * (((T.getD 0 []).length : Int) - 1)], 0)
theorem flat_len {T X : List (List Rat)} (h : X.length = T.length) : (flatL T X).length = T.length := by unfold flatL; rw [List.length_zipWith]; omega
theorem flat_at {T X : List (List Rat)} (h : X.length = T.length) {i : Nat} (hi : i < T.length) : (flatL T X).getD i 0 = missR (T.getD i []) (X.getD i []) := by
  unfold flatL
  rw [List.getD_eq_getElem?_getD, List.getD_eq_getElem?_getD, List.getD_eq_getElem?_getD, List.getElem?_eq_getElem (by rw [List.length_zipWith]; omega), List.getElem?_eq_getElem hi, List.getElem?_eq_getElem (by omega), List.getElem_zipWith]
  rfl
theorem miss_sz {l m : List Rat} (hl : ∀ x ∈ l, szR x 1) (hm : ∀ x ∈ m, szR x 400) (h12 : l.length ≤ 12) (hlm : l.length = m.length) : szR (missR l m) 14461 :=
  szR_mono (sz_sum12 (by omega) (missL_sz hl hm (by omega) (by omega)) (by rw [missL_len hlm]; exact h12)) (by omega)
theorem flat_sz {T X : List (List Rat)} (hT : ∀ r ∈ T, ∀ x ∈ r, szR x 1) (hX : ∀ r ∈ X, ∀ x ∈ r, szR x 400) (h : X.length = T.length) (hl : ∀ r ∈ T, r.length ≤ 4) (hw : ∀ i, i < T.length → (X.getD i []).length = (T.getD i []).length) : ∀ x ∈ flatL T X, szR x 14461 := by
  intro x hx
  obtain ⟨i, hi, rfl⟩ := List.getElem_of_mem hx
  rw [flat_len h] at hi
  have e := flat_at h hi
  rw [List.getD_eq_getElem?_getD, List.getElem?_eq_getElem (by rw [flat_len h]; exact hi)] at e
  have e' : (flatL T X)[i] = missR (T.getD i []) (X.getD i []) := e
  rw [e']
  have h4 := tab_ok hl i
  exact miss_sz (hT _ (getD_mem' hi)) (hX _ (getD_mem' (by omega))) (by omega) (hw i hi).symm
section
variable {cs xs ys : List SV} {T : List (List Rat)} {X Y : Nat} {kind k n : Int} {sm ss : Bool} {nm dm ns ds : List Nat}
set_option maxHeartbeats 1000000 in
theorem test_table (h : TabC cs T 1) (hn : T.length ≤ 4) (hl : ∀ r ∈ T, r.length ≤ 4) : Go.Ev.Fn CX 45 [.sl T.length cs] (resV (tabR T)) := by
  have hE := test_Expected h hn hl
  have r0 := rat_Int 0 (by omega)
  unfold tabR
  by_cases he : (expR T).2 = 0
  rotate_left
  · rw [if_pos he]
    generalize (expR T).2 = e at *
    generalize hX : (expR T).1 = X at *
    generalize tabsC X = xc at *
    clear h hl
    refine Go.Ev.Fn.intro (fn := Tryz.f45) (body := (Tryz.f45).body.get!) (by kernel_rfl) (by kernel_rfl) (by kernel_rfl) (fun _ => rfl) (Nat.le_of_ble_eq_true (by kernel_rfl)) ?_; unfold Tryz.f45; simp only [Option.get!_some]
    repeat (first | (simp only [go_sem, Nat.reduceEqDiff, Nat.reduceAdd, Nat.reduceSub, Nat.reduceMul, Nat.reduceLeDiff, Nat.reduceLT, reduceIte, reduceCtorEq, Nat.succ_ne_zero, elemsC, Int.reduceToNat, Nat.reducePow]) | (simp (disch := (first | omega | (simp only [AL, List.length_map]; omega))) only [AR, AL, ifT, ifF, take_all, List.length_cons, List.length_nil, Int.reduceToNat, Int.reducePow, Nat.reducePow]) | (refine wk_intro (by kernel_rfl) ?_) | (refine vp_draw (id := 8) (l := [9, 32]) (by kernel_rfl) ?_) | (refine vp_draw (id := 10) (l := []) (by kernel_rfl) ?_) | (refine vf_of (by first | exact hE | exact r0) ?_))
    rfl
  rw [if_neg (not_not_intro he)]
  obtain ⟨g1, g2⟩ := expR_sums he
  have hz := expR_sz h hn hl
  have hTz := tab_szall (by omega) h
  have hfl := flat_len g1
  have hfz := flat_sz hTz hz g1 hl (fun i hi => (g2 i hi).1)
  have hfa := fun {i : Nat} (hi : i < T.length) => flat_at g1 hi
  have hxt := fun {i : Nat} (hi : i < (expR T).1.length) => tabsC_at (expR T).1 hi
  have hxl := tabsC_len (expR T).1
  have hlen := tab_len h
  have hat := fun {i : Nat} (hi : i < T.length) => tabC_at (i := i) h hi
  have h4 := tab_ok hl
  have ht0 : 2 ≤ T.length ∧ 2 ≤ (T.getD 0 []).length := by
    have : tabE T = 0 := by
      unfold expR at he
      by_cases c : tabE T = 0
      · exact c
      · rw [if_pos c] at he; exact absurd he c
    obtain ⟨a, b, -⟩ := tabE_zero this
    exact ⟨a, b⟩
  obtain ⟨rc0, a0, -⟩ := hat (i := 0) (by omega)
  have a0' : cs.head? = some (.sl (T.getD 0 []).length rc0) := a0
  have h40 := h4 0
  rw [he] at hE
  have hall : sumR ((flatL T (expR T).1).take T.length) = flatR T (expR T).1 := by rw [List.take_of_length_le (by omega)]; rfl
  have hst := fun {i : Nat} (hi : i < T.length) => sumR_take (flatL T (expR T).1) (i := i) (by omega)
  have zt := fun i => sz_take12 (by omega) hfz (by omega) i
  have hsum0 : sumR ((flatL T (expR T).1).take 0) = 0 := rfl
  have hmz := fun i (hi : i < T.length) => hfz _ (getD_mem (l := flatL T (expR T).1) (i := i) (by omega))
  generalize hS : (fun i => sumR ((flatL T (expR T).1).take i)) = S at *
  have hSi : ∀ i, sumR ((flatL T (expR T).1).take i) = S i := fun i => by rw [← hS]
  simp only [hSi] at zt hst hall hsum0
  rw [g1] at hE hxl
  generalize hXX : (expR T).1 = X at *
  generalize flatR T X = q at *
  generalize hxc : tabsC X = xc at *
  have hpm : (T.length - 1) * ((T.getD 0 []).length - 1) ≤ 16 := Nat.le_trans (Nat.mul_le_mul (show _ ≤ 4 by omega) (show _ ≤ 4 by omega)) (by omega)
  have e1 : ((T.length - 1 : Nat) : Int) = (T.length : Int) - 1 := by omega
  have e2 : (((T.getD 0 []).length - 1 : Nat) : Int) = ((T.getD 0 []).length : Int) - 1 := by omega
  have hprod : ((T.length : Int) - 1) * (((T.getD 0 []).length : Int) - 1) = (((T.length - 1) * ((T.getD 0 []).length - 1) : Nat) : Int) := by rw [← e1, ← e2]; exact (Int.natCast_mul _ _).symm
  have hmul : IntKind.i64.wrap (((T.length - 1 : Nat) : Int) * (((T.getD 0 []).length - 1 : Nat) : Int)) = (((T.length - 1) * ((T.getD 0 []).length - 1) : Nat) : Int) := by
    rw [← Int.natCast_mul]
    exact wI64 (by omega)
  rw [hprod]
  generalize hpr : (T.length - 1) * ((T.getD 0 []).length - 1) = pr at *
  clear e1 e2 hprod hS hSi hfz he
  refine Go.Ev.Fn.intro (fn := Tryz.f45) (body := (Tryz.f45).body.get!) (by kernel_rfl) (by kernel_rfl) (by kernel_rfl) (fun _ => rfl) (Nat.le_of_ble_eq_true (by kernel_rfl)) ?_; unfold Tryz.f45; simp only [Option.get!_some]
  repeat (first | (simp only [go_sem, Nat.reduceEqDiff, Nat.reduceAdd, Nat.reduceSub, Nat.reduceMul, Nat.reduceLeDiff, Nat.reduceLT, reduceIte, reduceCtorEq, Nat.succ_ne_zero, elemsC, Int.reduceToNat, Nat.reducePow]) | (simp (disch := (first | omega | (simp only [AL, List.length_map]; omega))) only [AR, AL, ifT, ifF, take_all, List.length_cons, List.length_nil, Int.reduceToNat, Int.reducePow, Nat.reducePow]) | (refine wk_intro (by kernel_rfl) ?_) | (refine vp_draw (id := 8) (l := [9, 32]) (by kernel_rfl) ?_) | (refine vp_draw (id := 10) (l := []) (by kernel_rfl) ?_) | (refine vf_of (by first | exact hE | exact r0) ?_))
  refine vp_loop_inv (fun s => s.tmp 0 = .sv (.sl T.length cs) ∧ s.tmp 2 = .ptr 2 0 0 ∧ s.obj 2 0 = some [.bool false, .sl 0 [], .sl 0 []] ∧ s.tmp 5 = .sv (.sl T.length xc) ∧ s.tmp 7 = .ptr 7 0 0 ∧ s.tmp 20 = .sv (.sl T.length cs) ∧ s.tmp 21 = .sv (.int .i64 (T.length : Int)) ∧ (s.tmp 32 = .undef ∨ ∃ u, s.tmp 32 = .sv u) ∧
      ∃ i : Nat, s.tmp 22 = .sv (.int .i64 (i : Int)) ∧ i ≤ T.length ∧ s.obj 7 0 = some (rvC (S i)))
    (fun s => match s.tmp 22 with | .sv (.int _ i) => T.length - i.toNat | _ => 0) ⟨rfl, rfl, rfl, rfl, rfl, rfl, rfl, .inl rfl, 0, rfl, by omega, by rw [hsum0]; rfl⟩ ?_
  rintro s2 ⟨i0, i2, o2, i5, i7, i20, i21, hu, i, i22, hi, iP⟩
  by_cases hend : i = T.length
  · subst hend
    rw [hall] at iP
    repeat (first | (simp only [go_sem, Nat.reduceEqDiff, Nat.reduceAdd, Nat.reduceSub, Nat.reduceMul, Nat.reduceLeDiff, Nat.reduceLT, reduceIte, reduceCtorEq, Nat.succ_ne_zero, elemsC, Int.reduceToNat, Nat.reducePow, i0, i2, o2, i5, i7, i20, i21, i22, iP, rvC, a0, a0', hlen, hmul, hpr]) | (simp (disch := (first | omega | (simp only [AL, List.length_map]; omega))) only [AR, AL, ifT, ifF, take_all, List.length_cons, List.length_nil, Int.reduceToNat, Int.reducePow, Nat.reducePow, i0, i2, o2, i5, i7, i20, i21, i22, iP, rvC, a0, a0', hlen, hmul, hpr]) | (refine wk_intro (by kernel_rfl) ?_) | (refine vp_draw (id := 8) (l := [9, 32]) (by kernel_rfl) ?_) | (refine vp_draw (id := 10) (l := []) (by kernel_rfl) ?_))
  · obtain ⟨rc, b1, hr⟩ := hat (i := i) (by omega)
    have b2 := hxt (i := i) (by omega)
    obtain ⟨w1, -⟩ := g2 i (by omega)
    have h4i := h4 i
    have ms := test_misses hr (rvsC_row _ (hz _ (getD_mem' (l := X) (d := []) (i := i) (by omega)))) (by omega) (by omega) (by omega) (by omega) (by omega) w1.symm
    have zmi := hmz i (by omega)
    rw [← hfa (by omega)] at ms
    have ad := rat_Add (RatA_rv (zt i)) (RatA_rv zmi) (by omega) (by omega) (by omega)
    rw [← hst (by omega)] at ad
    generalize (flatL T X).getD i 0 = v at *
    rw [w1] at b2 ms
    generalize (T.getD i []).length = u at *
    generalize rvsC (X.getD i []) = rx at *
    clear hat hxt g2 h4 hz hmz hfa hst zt hr zmi hall hsum0 hE
    rcases hu with hu | ⟨u', hu⟩
    · repeat (first | (simp only [go_sem, Nat.reduceEqDiff, Nat.reduceAdd, Nat.reduceSub, Nat.reduceMul, Nat.reduceLeDiff, Nat.reduceLT, reduceIte, reduceCtorEq, Nat.succ_ne_zero, elemsC, Int.reduceToNat, Nat.reducePow, i0, i2, o2, i5, i7, i20, i21, i22, iP, rvC, b1, b2, hlen, hxl, hu]) | (simp (disch := (first | omega | (simp only [AL, List.length_map]; omega))) only [AR, AL, ifT, ifF, take_all, List.length_cons, List.length_nil, Int.reduceToNat, Int.reducePow, Nat.reducePow, i0, i2, o2, i5, i7, i20, i21, i22, iP, rvC, b1, b2, hlen, hxl, hu]) | (refine wk_intro (by kernel_rfl) ?_) | (refine vp_draw (id := 8) (l := [9, 32]) (by kernel_rfl) ?_) | (refine vp_draw (id := 10) (l := []) (by kernel_rfl) ?_))
      repeat (first | (simp only [go_sem, Nat.reduceEqDiff, Nat.reduceAdd, Nat.reduceSub, Nat.reduceMul, Nat.reduceLeDiff, Nat.reduceLT, reduceIte, reduceCtorEq, Nat.succ_ne_zero, elemsC, Int.reduceToNat, Nat.reducePow, i0, i2, o2, i5, i7, i20, i21, i22, iP, rvC, b1, b2, hlen, hxl]) | (simp (disch := (first | omega | (simp only [AL, List.length_map]; omega))) only [AR, AL, ifT, ifF, take_all, List.length_cons, List.length_nil, Int.reduceToNat, Int.reducePow, Nat.reducePow, i0, i2, o2, i5, i7, i20, i21, i22, iP, rvC, b1, b2, hlen, hxl]) | (refine wk_intro (by kernel_rfl) ?_) | (refine vp_draw (id := 8) (l := [9, 32]) (by kernel_rfl) ?_) | (refine vp_draw (id := 10) (l := []) (by kernel_rfl) ?_) | (refine vf_of (by first | exact ms | exact ad) ?_))
      exact ⟨⟨.inr ⟨_, rfl⟩, i + 1, rfl, by omega, rfl⟩, by omega⟩
    · repeat (first | (simp only [go_sem, Nat.reduceEqDiff, Nat.reduceAdd, Nat.reduceSub, Nat.reduceMul, Nat.reduceLeDiff, Nat.reduceLT, reduceIte, reduceCtorEq, Nat.succ_ne_zero, elemsC, Int.reduceToNat, Nat.reducePow, i0, i2, o2, i5, i7, i20, i21, i22, iP, rvC, b1, b2, hlen, hxl, hu]) | (simp (disch := (first | omega | (simp only [AL, List.length_map]; omega))) only [AR, AL, ifT, ifF, take_all, List.length_cons, List.length_nil, Int.reduceToNat, Int.reducePow, Nat.reducePow, i0, i2, o2, i5, i7, i20, i21, i22, iP, rvC, b1, b2, hlen, hxl, hu]) | (refine wk_intro (by kernel_rfl) ?_) | (refine vp_draw (id := 8) (l := [9, 32]) (by kernel_rfl) ?_) | (refine vp_draw (id := 10) (l := []) (by kernel_rfl) ?_))
      repeat (first | (simp only [go_sem, Nat.reduceEqDiff, Nat.reduceAdd, Nat.reduceSub, Nat.reduceMul, Nat.reduceLeDiff, Nat.reduceLT, reduceIte, reduceCtorEq, Nat.succ_ne_zero, elemsC, Int.reduceToNat, Nat.reducePow, i0, i2, o2, i5, i7, i20, i21, i22, iP, rvC, b1, b2, hlen, hxl]) | (simp (disch := (first | omega | (simp only [AL, List.length_map]; omega))) only [AR, AL, ifT, ifF, take_all, List.length_cons, List.length_nil, Int.reduceToNat, Int.reducePow, Nat.reducePow, i0, i2, o2, i5, i7, i20, i21, i22, iP, rvC, b1, b2, hlen, hxl]) | (refine wk_intro (by kernel_rfl) ?_) | (refine vp_draw (id := 8) (l := [9, 32]) (by kernel_rfl) ?_) | (refine vp_draw (id := 10) (l := []) (by kernel_rfl) ?_) | (refine vf_of (by first | exact ms | exact ad) ?_))
      exact ⟨⟨.inr ⟨_, rfl⟩, i + 1, rfl, by omega, rfl⟩, by omega⟩
/-- Tries. -/
def binR (n k : Int) (x : Rat) : Res := if twoD n k x then ((k : Rat), [n], 0) else (0, [], 4)
theorem test_binom {mu : Rat} {tn : Nat} {tc : List SV} (hm : RatA (ratV sm nm dm) mu 1) (hn : -9223372036854775808 ≤ n ∧ n < 9223372036854775808) (hk : -9223372036854775808 ≤ k ∧ k < 9223372036854775808) :
    Go.Ev.Fn CX 46 [testV kind (.sl X xs) (.sl Y ys) (.sl tn tc) sm nm dm ss ns ds k n] (resV (binR n k mu)) := by
  obtain ⟨q, hb⟩ := disc_BinomTwo hm (by omega) (by omega) hn hk
  have r0 := rat_Int 0 (by omega)
  have rk := rat_Int k (by omega)
  unfold binR
  cases h : twoD n k mu
  · rw [h] at hb
    clear hm h
    refine Go.Ev.Fn.intro (fn := Tryz.f46) (body := (Tryz.f46).body.get!) (by kernel_rfl) (by kernel_rfl) (by kernel_rfl) (fun _ => rfl) (Nat.le_of_ble_eq_true (by kernel_rfl)) ?_; unfold Tryz.f46; simp only [Option.get!_some]
    repeat (first | (simp only [go_sem, Nat.reduceEqDiff, Nat.reduceAdd, Nat.reduceSub, Nat.reduceMul, Nat.reduceLeDiff, Nat.reduceLT, reduceIte, reduceCtorEq, Nat.succ_ne_zero, elemsC, Int.reduceToNat, Nat.reducePow, Bool.not_false]) | (simp (disch := (first | omega | (simp only [AL, List.length_map]; omega))) only [AR, AL, ifT, ifF, take_all, List.length_cons, List.length_nil, Int.reduceToNat, Int.reducePow, Nat.reducePow, Bool.not_false]) | (refine wk_intro (by kernel_rfl) ?_) | (refine vp_draw (id := 4) (l := []) (by kernel_rfl) ?_) | (refine vf_of (by first | exact hb | exact r0) ?_))
    rfl
  · rw [h] at hb
    clear hm h
    refine Go.Ev.Fn.intro (fn := Tryz.f46) (body := (Tryz.f46).body.get!) (by kernel_rfl) (by kernel_rfl) (by kernel_rfl) (fun _ => rfl) (Nat.le_of_ble_eq_true (by kernel_rfl)) ?_; unfold Tryz.f46; simp only [Option.get!_some]
    repeat (first | (simp only [go_sem, Nat.reduceEqDiff, Nat.reduceAdd, Nat.reduceSub, Nat.reduceMul, Nat.reduceLeDiff, Nat.reduceLT, reduceIte, reduceCtorEq, Nat.succ_ne_zero, elemsC, Int.reduceToNat, Nat.reducePow, Bool.not_true]) | (simp (disch := (first | omega | (simp only [AL, List.length_map]; omega))) only [AR, AL, ifT, ifF, take_all, List.length_cons, List.length_nil, Int.reduceToNat, Int.reducePow, Nat.reducePow, Bool.not_true]) | (refine wk_intro (by kernel_rfl) ?_) | (refine vp_draw (id := 4) (l := []) (by kernel_rfl) ?_) | (refine vf_of (by first | exact hb | exact rk) ?_))
theorem ref19_binom {mu : Rat} {tn : Nat} {tc : List SV} (hm : RatA (ratV sm nm dm) mu 1) (hn : -9223372036854775808 ≤ n ∧ n < 9223372036854775808) (hk : -9223372036854775808 ≤ k ∧ k < 9223372036854775808) :
    Go.Ev.Fn CX 56 [testV kind (.sl X xs) (.sl Y ys) (.sl tn tc) sm nm dm ss ns ds k n] (resV (binR n k mu)) := by
  obtain ⟨q, hb⟩ := ref13_BinomTwo hm (by omega) (by omega) hn hk
  have r0 := ref19_zero
  have rk := ref2_Int k (by omega)
  unfold binR
  cases h : twoD n k mu
  · rw [h] at hb
    clear hm h
    refine Go.Ev.Fn.intro (fn := Tryz.f56) (body := (Tryz.f56).body.get!) (by kernel_rfl) (by kernel_rfl) (by kernel_rfl) (fun _ => rfl) (Nat.le_of_ble_eq_true (by kernel_rfl)) ?_; unfold Tryz.f56; simp only [Option.get!_some]
    repeat (first | (simp only [go_sem, Nat.reduceEqDiff, Nat.reduceAdd, Nat.reduceSub, Nat.reduceMul, Nat.reduceLeDiff, Nat.reduceLT, reduceIte, reduceCtorEq, Nat.succ_ne_zero, elemsC, Int.reduceToNat, Nat.reducePow, Bool.not_false]) | (simp (disch := (first | omega | (simp only [AL, List.length_map]; omega))) only [AR, AL, ifT, ifF, take_all, List.length_cons, List.length_nil, Int.reduceToNat, Int.reducePow, Nat.reducePow, Bool.not_false]) | (refine wk_intro (by kernel_rfl) ?_) | (refine vp_draw (id := 4) (l := []) (by kernel_rfl) ?_) | (refine vf_of (by first | exact hb | exact r0) ?_))
  · rw [h] at hb
    clear hm h
    refine Go.Ev.Fn.intro (fn := Tryz.f56) (body := (Tryz.f56).body.get!) (by kernel_rfl) (by kernel_rfl) (by kernel_rfl) (fun _ => rfl) (Nat.le_of_ble_eq_true (by kernel_rfl)) ?_; unfold Tryz.f56; simp only [Option.get!_some]
    repeat (first | (simp only [go_sem, Nat.reduceEqDiff, Nat.reduceAdd, Nat.reduceSub, Nat.reduceMul, Nat.reduceLeDiff, Nat.reduceLT, reduceIte, reduceCtorEq, Nat.succ_ne_zero, elemsC, Int.reduceToNat, Nat.reducePow, Bool.not_true]) | (simp (disch := (first | omega | (simp only [AL, List.length_map]; omega))) only [AR, AL, ifT, ifF, take_all, List.length_cons, List.length_nil, Int.reduceToNat, Int.reducePow, Nat.reducePow, Bool.not_true]) | (refine wk_intro (by kernel_rfl) ?_) | (refine vp_draw (id := 4) (l := []) (by kernel_rfl) ?_) | (refine vf_of (by first | exact hb | exact rk) ?_))
end
end Go.Proofs.YtdnmhnjblgkjaaaGreat

/- vernierref19.table, in the evaluator. -/
namespace Go.Proofs.YtdnmhnjblgkjaaaGreat
set_option linter.unusedSimpArgs false
set_option linter.unusedVariables false
set_option maxRecDepth 8000
open Go.Ev
section
variable {cs xs ys : List SV} {T : List (List Rat)} {X' Y : Nat} {kind k n : Int} {sm ss : Bool} {nm dm ns ds : List Nat}
set_option maxHeartbeats 1000000 in
theorem ref19_table (h : TabC cs T 1) (hn : T.length ≤ 4) (hl : ∀ r ∈ T, r.length ≤ 4) : Go.Ev.Fn CX 55 [testV kind (.sl X' xs) (.sl Y ys) (.sl T.length cs) sm nm dm ss ns ds k n] (resV (tabR T)) := by
  have hE := ref19_Expected h hn hl
  have r0 := ref19_zero
  unfold tabR
  by_cases he : (expR T).2 = 0
  rotate_left
  · rw [if_pos he]
    generalize (expR T).2 = e at *
    generalize hX : (expR T).1 = X at *
    generalize tabsC X = xc at *
    clear h hl
    refine Go.Ev.Fn.intro (fn := Tryz.f55) (body := (Tryz.f55).body.get!) (by kernel_rfl) (by kernel_rfl) (by kernel_rfl) (fun _ => rfl) (Nat.le_of_ble_eq_true (by kernel_rfl)) ?_; unfold Tryz.f55; simp only [Option.get!_some]
    repeat (first | (simp only [go_sem, Nat.reduceEqDiff, Nat.reduceAdd, Nat.reduceSub, Nat.reduceMul, Nat.reduceLeDiff, Nat.reduceLT, reduceIte, reduceCtorEq, Nat.succ_ne_zero, elemsC, Int.reduceToNat, Nat.reducePow]) | (simp (disch := (first | omega | (simp only [AL, List.length_map]; omega))) only [AR, AL, ifT, ifF, take_all, List.length_cons, List.length_nil, Int.reduceToNat, Int.reducePow, Nat.reducePow]) | (refine wk_intro (by kernel_rfl) ?_) | (refine vp_draw (id := 11) (l := []) (by kernel_rfl) ?_) | (refine vp_draw (id := 12) (l := []) (by kernel_rfl) ?_) | (refine vf_of (by first | exact hE | exact r0) ?_))
  rw [if_neg (not_not_intro he)]
  obtain ⟨g1, g2⟩ := expR_sums he
  have hz := expR_sz h hn hl
  have hTz := tab_szall (by omega) h
  have hfl := flat_len g1
  have hfz := flat_sz hTz hz g1 hl (fun i hi => (g2 i hi).1)
  have hfa := fun {i : Nat} (hi : i < T.length) => flat_at g1 hi
  have hxt := fun {i : Nat} (hi : i < (expR T).1.length) => tabsC_at (expR T).1 hi
  have hxl := tabsC_len (expR T).1
  have hlen := tab_len h
  have hat := fun {i : Nat} (hi : i < T.length) => tabC_at (i := i) h hi
  have h4 := tab_ok hl
  have ht0 : 2 ≤ T.length ∧ 2 ≤ (T.getD 0 []).length := by
    have : tabE T = 0 := by
      unfold expR at he
      by_cases c : tabE T = 0
      · exact c
      · rw [if_pos c] at he; exact absurd he c
    obtain ⟨a, b, -⟩ := tabE_zero this
    exact ⟨a, b⟩
  have b0 := hxt (i := 0) (by omega)
  rw [(g2 0 (by omega)).1] at b0
  have h40 := h4 0
  rw [he] at hE
  have hall : sumR ((flatL T (expR T).1).take T.length) = flatR T (expR T).1 := by rw [List.take_of_length_le (by omega)]; rfl
  have hst := fun {i : Nat} (hi : i < T.length) => sumR_take (flatL T (expR T).1) (i := i) (by omega)
  have zt := fun i => sz_take12 (by omega) hfz (by omega) i
  have hsum0 : sumR ((flatL T (expR T).1).take 0) = 0 := rfl
  generalize hS : (fun i => sumR ((flatL T (expR T).1).take i)) = S at *
  have hSi : ∀ i, sumR ((flatL T (expR T).1).take i) = S i := fun i => by rw [← hS]
  simp only [hSi] at zt hst hall hsum0
  rw [g1] at hE hxl
  generalize hXX : (expR T).1 = X at *
  generalize flatR T X = q at *
  generalize hxc : tabsC X = xc at *
  have b0' : xc.head? = some (.sl (T.getD 0 []).length (rvsC (X.getD 0 []))) := b0
  have hpm : (T.length - 1) * ((T.getD 0 []).length - 1) ≤ 16 := Nat.le_trans (Nat.mul_le_mul (show _ ≤ 4 by omega) (show _ ≤ 4 by omega)) (by omega)
  have e1 : ((T.length - 1 : Nat) : Int) = (T.length : Int) - 1 := by omega
  have e2 : (((T.getD 0 []).length - 1 : Nat) : Int) = ((T.getD 0 []).length : Int) - 1 := by omega
  have hprod : ((T.length : Int) - 1) * (((T.getD 0 []).length : Int) - 1) = (((T.length - 1) * ((T.getD 0 []).length - 1) : Nat) : Int) := by rw [← e1, ← e2]; exact (Int.natCast_mul _ _).symm
  have hmul : IntKind.i64.wrap (((T.length - 1 : Nat) : Int) * (((T.getD 0 []).length - 1 : Nat) : Int)) = (((T.length - 1) * ((T.getD 0 []).length - 1) : Nat) : Int) := by
    rw [← Int.natCast_mul]
    exact wI64 (by omega)
  rw [hprod]
  generalize hpr : (T.length - 1) * ((T.getD 0 []).length - 1) = pr at *
  generalize rvsC (X.getD 0 []) = rx0 at *
  clear e1 e2 hprod hS hSi hfz he
  refine Go.Ev.Fn.intro (fn := Tryz.f55) (body := (Tryz.f55).body.get!) (by kernel_rfl) (by kernel_rfl) (by kernel_rfl) (fun _ => rfl) (Nat.le_of_ble_eq_true (by kernel_rfl)) ?_; unfold Tryz.f55; simp only [Option.get!_some]
  repeat (first | (simp only [go_sem, Nat.reduceEqDiff, Nat.reduceAdd, Nat.reduceSub, Nat.reduceMul, Nat.reduceLeDiff, Nat.reduceLT, reduceIte, reduceCtorEq, Nat.succ_ne_zero, elemsC, Int.reduceToNat, Nat.reducePow]) | (simp (disch := (first | omega | (simp only [AL, List.length_map]; omega))) only [AR, AL, ifT, ifF, take_all, List.length_cons, List.length_nil, Int.reduceToNat, Int.reducePow, Nat.reducePow]) | (refine wk_intro (by kernel_rfl) ?_) | (refine vp_draw (id := 11) (l := []) (by kernel_rfl) ?_) | (refine vp_draw (id := 12) (l := []) (by kernel_rfl) ?_) | (refine vf_of (by first | exact hE | exact r0) ?_))
  refine vp_loop_inv (fun s => s.tmp 1 = .ptr 1 0 0 ∧ s.obj 1 0 = some [.int .i64 kind, .sl X' xs, .sl Y ys, .sl T.length cs, .bool sm, natV nm, natV dm, .bool ss, natV ns, natV ds, .int .i64 k, .int .i64 n] ∧ s.tmp 2 = .ptr 2 0 0 ∧ s.obj 2 0 = some [.bool false, .sl 0 [], .sl 0 []] ∧ s.tmp 5 = .sv (.sl T.length xc) ∧ s.tmp 7 = .ptr 7 0 0 ∧
      ∃ i : Nat, s.tmp 8 = .sv (.int .i64 (i : Int)) ∧ i ≤ T.length ∧ s.obj 7 0 = some (rvC (S i)))
    (fun s => match s.tmp 8 with | .sv (.int _ i) => T.length - i.toNat | _ => 0) ⟨rfl, rfl, rfl, rfl, rfl, rfl, 0, rfl, by omega, by rw [hsum0]; rfl⟩ ?_
  rintro s2 ⟨i1, o1, i2, o2, i5, i7, i, i8, hi, iP⟩
  by_cases hend : i = T.length
  · subst hend
    rw [hall] at iP
    repeat (first | (simp only [go_sem, Nat.reduceEqDiff, Nat.reduceAdd, Nat.reduceSub, Nat.reduceMul, Nat.reduceLeDiff, Nat.reduceLT, reduceIte, reduceCtorEq, Nat.succ_ne_zero, elemsC, Int.reduceToNat, Nat.reducePow, i1, o1, i2, o2, i5, i7, i8, iP, rvC, b0, b0', hxl, hmul, hpr]) | (simp (disch := (first | omega | (simp only [AL, List.length_map]; omega))) only [AR, AL, ifT, ifF, take_all, List.length_cons, List.length_nil, Int.reduceToNat, Int.reducePow, Nat.reducePow, i1, o1, i2, o2, i5, i7, i8, iP, rvC, b0, b0', hxl, hmul, hpr]) | (refine wk_intro (by kernel_rfl) ?_) | (refine vp_draw (id := 11) (l := []) (by kernel_rfl) ?_) | (refine vp_draw (id := 12) (l := []) (by kernel_rfl) ?_))
  · obtain ⟨rc, b1, hr⟩ := hat (i := i) (by omega)
    have b2 := hxt (i := i) (by omega)
    obtain ⟨w1, -⟩ := g2 i (by omega)
    have h4i := h4 i
    have hzi := hz _ (getD_mem' (l := X) (d := []) (i := i) (by omega))
    have hzt := row_sz (by omega) hr
    have hfi := hfa (i := i) (by omega)
    have hsi := hst (i := i) (by omega)
    rw [hfi] at hsi
    have zti := zt i
    have hrl := row_len hr
    have hxrl := rvsC_len (X.getD i [])
    have hxr := rvsC_row _ hzi
    have hml := missL_len w1.symm
    have hmz := missL_sz hzt hzi (by omega) (by omega)
    have hma := fun {k : Nat} (hk : k < (T.getD i []).length) => missL_at w1.symm hk
    generalize T.getD i [] = r at *
    generalize X.getD i [] = x at *
    have hmt := fun {k : Nat} (hk : k < r.length) => sumR_take (missL r x) (i := k) (by omega)
    have hmzt := fun k => sz_take12 (by omega) hmz (by omega) k
    have hmzk := fun k (hk : k < r.length) => hmz _ (getD_mem (l := missL r x) (i := k) (by omega))
    have hlastm : sumR ((missL r x).take r.length) = missR r x := by rw [List.take_of_length_le (by omega)]; rfl
    rw [w1] at b2 hxrl
    generalize hrx : rvsC x = rx at *
    clear hat hxt g2 h4 hz hfa hst zt hall hsum0 hE hzt hzi hmz
    repeat (first | (simp only [go_sem, Nat.reduceEqDiff, Nat.reduceAdd, Nat.reduceSub, Nat.reduceMul, Nat.reduceLeDiff, Nat.reduceLT, reduceIte, reduceCtorEq, Nat.succ_ne_zero, elemsC, Int.reduceToNat, Nat.reducePow, i1, o1, i2, o2, i5, i7, i8, b1, b2, hlen, hxl]) | (simp (disch := (first | omega | (simp only [AL, List.length_map]; omega))) only [AR, AL, ifT, ifF, take_all, List.length_cons, List.length_nil, Int.reduceToNat, Int.reducePow, Nat.reducePow, i1, o1, i2, o2, i5, i7, i8, b1, b2, hlen, hxl]) | (refine wk_intro (by kernel_rfl) ?_) | (refine vp_draw (id := 11) (l := []) (by kernel_rfl) ?_) | (refine vp_draw (id := 12) (l := []) (by kernel_rfl) ?_))
    refine vp_loop_inv (fun s => s.tmp 1 = .ptr 1 0 0 ∧ s.obj 1 0 = some [.int .i64 kind, .sl X' xs, .sl Y ys, .sl T.length cs, .bool sm, natV nm, natV dm, .bool ss, natV ns, natV ds, .int .i64 k, .int .i64 n] ∧ s.tmp 2 = .ptr 2 0 0 ∧ s.obj 2 0 = some [.bool false, .sl 0 [], .sl 0 []] ∧ s.tmp 5 = .sv (.sl T.length xc) ∧ s.tmp 7 = .ptr 7 0 0 ∧ s.tmp 8 = .sv (.int .i64 (i : Int)) ∧
        ∃ k : Nat, s.tmp 9 = .sv (.int .i64 (k : Int)) ∧ k ≤ r.length ∧ s.obj 7 0 = some (rvC (S i + sumR ((missL r x).take k))))
      (fun s => match s.tmp 9 with | .sv (.int _ i) => r.length - i.toNat | _ => 0) ⟨i1, o1, i2, o2, i5, i7, i8, 0, rfl, by omega, ?_⟩ ?_
    · rw [List.take_zero, sumR_nil, show S i + 0 = S i by grind]
      exact iP
    rintro s3 ⟨j1, p1, j2, p2, j5, j7, j8, k', j9, hk, jP⟩
    by_cases hkend : k' = r.length
    · subst hkend
      rw [hlastm, ← hsi] at jP
      repeat (first | (simp only [go_sem, Nat.reduceEqDiff, Nat.reduceAdd, Nat.reduceSub, Nat.reduceMul, Nat.reduceLeDiff, Nat.reduceLT, reduceIte, reduceCtorEq, Nat.succ_ne_zero, elemsC, Int.reduceToNat, Nat.reducePow, j1, p1, j2, p2, j5, j7, j8, j9, b1, b2, hlen, hxl]) | (simp (disch := (first | omega | (simp only [AL, List.length_map]; omega))) only [AR, AL, ifT, ifF, take_all, List.length_cons, List.length_nil, Int.reduceToNat, Int.reducePow, Nat.reducePow, j1, p1, j2, p2, j5, j7, j8, j9, b1, b2, hlen, hxl]) | (refine wk_intro (by kernel_rfl) ?_) | (refine vp_draw (id := 11) (l := []) (by kernel_rfl) ?_) | (refine vp_draw (id := 12) (l := []) (by kernel_rfl) ?_))
      exact ⟨⟨i + 1, rfl, by omega, jP⟩, by omega⟩
    · obtain ⟨s, n', d, rest, c1, hA⟩ := row_at (i := k') hr (by omega)
      obtain ⟨s', n'', d', rest', c2, hB⟩ := row_at (i := k') hxr (by omega)
      have of := ref19_off hA hB (by omega) (by omega) (by omega)
      have zo := hmzk k' (by omega)
      rw [← hma (by omega)] at of
      have ad := ref2_Add (RatA_rv (szR_add zti (hmzt k') (by omega))) (RatA_rv zo) (by omega) (by omega) (by omega)
      rw [show S i + sumR ((missL r x).take k') + (missL r x).getD k' 0 = S i + sumR ((missL r x).take (k' + 1)) by rw [hmt (by omega)]; grind] at ad
      generalize (missL r x).getD k' 0 = v at *
      generalize hU : S i + sumR ((missL r x).take k') = U at *
      generalize hU2 : S i + sumR ((missL r x).take (k' + 1)) = U2 at *
      clear hA hB hr hxr hma hmt hmzt hmzk zo hsi hfi hU zti
      repeat (first | (simp only [go_sem, Nat.reduceEqDiff, Nat.reduceAdd, Nat.reduceSub, Nat.reduceMul, Nat.reduceLeDiff, Nat.reduceLT, reduceIte, reduceCtorEq, Nat.succ_ne_zero, elemsC, Int.reduceToNat, Nat.reducePow, j1, p1, j2, p2, j5, j7, j8, j9, jP, b1, b2, hlen, hxl, c1, c2, hrl, hxrl, rvC]) | (simp (disch := (first | omega | (simp only [AL, List.length_map]; omega))) only [AR, AL, ifT, ifF, take_all, List.length_cons, List.length_nil, Int.reduceToNat, Int.reducePow, Nat.reducePow, j1, p1, j2, p2, j5, j7, j8, j9, jP, b1, b2, hlen, hxl, c1, c2, hrl, hxrl, rvC]) | (refine wk_intro (by kernel_rfl) ?_) | (refine vp_draw (id := 11) (l := []) (by kernel_rfl) ?_) | (refine vp_draw (id := 12) (l := []) (by kernel_rfl) ?_) | (refine vf_of (by first | exact of | exact ad) ?_))
      exact ⟨⟨k' + 1, rfl, by omega, by rw [hU2]⟩, by omega⟩
end
end Go.Proofs.YtdnmhnjblgkjaaaGreat

/- test.raw, vernierref19.raw, chi, Statistic, in the evaluator. -/
namespace Go.Proofs.YtdnmhnjblgkjaaaGreat
set_option linter.unusedSimpArgs false
set_option linter.unusedVariables false
set_option maxRecDepth 8000
open Go.Ev
/-- A test's statistic, however great it is. -/
def rawR (kind : Int) (l m : List Rat) (T : List (List Rat)) (mu sg : Rat) (k n : Int) : Res :=
  if kind = 1 then zR l mu sg else if kind = 2 then stuR l mu else if kind = 3 then (if l.length ≠ m.length then (0, [], 1) else stuR (List.zipWith (fun a b => a - b) l m) 0) else
  if kind = 4 then poolR l m else if kind = 5 then fisR l m else if kind = 6 then fitR l m else if kind = 7 then tabR T else if kind = 8 then binR n k mu else (0, [], 1)
section
variable {kind k n : Int} {xs ys tc : List SV} {sm ss : Bool} {nm dm ns ds : List Nat} {l m : List Rat} {T : List (List Rat)} {mu sg : Rat}
set_option maxHeartbeats 2000000 in
theorem test_raw (h : RowC xs l 1) (h2 : RowC ys m 1) (hl : l.length ≤ 12) (hm : m.length ≤ 12) (hT : TabC tc T 1) (hn : T.length ≤ 4) (hTl : ∀ r ∈ T, r.length ≤ 4) (hmu : RatA (ratV sm nm dm) mu 1) (hsg : RatA (ratV ss ns ds) sg 1)
    (bn : -9223372036854775808 ≤ n ∧ n < 9223372036854775808) (bk : -9223372036854775808 ≤ k ∧ k < 9223372036854775808) :
    Go.Ev.Fn CX 16 [testV kind (.sl l.length xs) (.sl m.length ys) (.sl T.length tc) sm nm dm ss ns ds k n] (resV (rawR kind l m T mu sg k n)) := by
  unfold rawR
  by_cases c1 : kind = 1
  · subst c1
    rw [if_pos rfl]
    have s1 := test_z (kind := 1) (k := k) (n := n) (tn := T.length) (Y := m.length) (ys := ys) (tc := tc) h hl hmu hsg (by omega) (by omega)
    generalize zR l mu sg = r at *
    clear h h2 hT hTl hmu hsg
    refine Go.Ev.Fn.intro (fn := Tryz.f16) (body := (Tryz.f16).body.get!) (by kernel_rfl) (by kernel_rfl) (by kernel_rfl) (fun _ => rfl) (Nat.le_of_ble_eq_true (by kernel_rfl)) ?_; unfold Tryz.f16; simp only [Option.get!_some]
    repeat (first | (simp only [go_sem, Nat.reduceEqDiff, Nat.reduceAdd, Nat.reduceSub, Nat.reduceMul, Nat.reduceLeDiff, Nat.reduceLT, reduceIte, reduceCtorEq, Nat.succ_ne_zero, elemsC, Int.reduceToNat, Nat.reducePow]) | (simp (disch := (first | omega | (simp only [AL, List.length_map]; omega))) only [AR, AL, ifT, ifF, take_all, List.length_cons, List.length_nil, Int.reduceToNat, Int.reducePow, Nat.reducePow]) | (refine wk_intro (by kernel_rfl) ?_) | (refine vf_of (by first | exact s1) ?_))
  rw [if_neg c1]
  by_cases c2 : kind = 2
  · subst c2
    rw [if_pos rfl]
    exact raw_T h (by omega) (by omega) hmu (by omega) (by omega) hl (by omega)
  rw [if_neg c2]
  by_cases c3 : kind = 3
  · subst c3
    rw [if_pos rfl]
    exact raw_paired h h2 hl hm
  rw [if_neg c3]
  by_cases c4 : kind = 4
  · subst c4
    rw [if_pos rfl]
    exact raw_pooled h h2 hl hm
  rw [if_neg c4]
  by_cases c5 : kind = 5
  · subst c5
    rw [if_pos rfl]
    exact raw_fisher h h2 hl hm
  rw [if_neg c5]
  by_cases c6 : kind = 6
  · subst c6
    rw [if_pos rfl]
    have s1 := test_fit h h2 hl hm
    generalize fitR l m = r at *
    clear h h2 hT hTl hmu hsg
    refine Go.Ev.Fn.intro (fn := Tryz.f16) (body := (Tryz.f16).body.get!) (by kernel_rfl) (by kernel_rfl) (by kernel_rfl) (fun _ => rfl) (Nat.le_of_ble_eq_true (by kernel_rfl)) ?_; unfold Tryz.f16; simp only [Option.get!_some]
    repeat (first | (simp only [go_sem, Nat.reduceEqDiff, Nat.reduceAdd, Nat.reduceSub, Nat.reduceMul, Nat.reduceLeDiff, Nat.reduceLT, reduceIte, reduceCtorEq, Nat.succ_ne_zero, elemsC, Int.reduceToNat, Nat.reducePow]) | (simp (disch := (first | omega | (simp only [AL, List.length_map]; omega))) only [AR, AL, ifT, ifF, take_all, List.length_cons, List.length_nil, Int.reduceToNat, Int.reducePow, Nat.reducePow]) | (refine wk_intro (by kernel_rfl) ?_) | (refine vf_of (by first | exact s1) ?_))
  rw [if_neg c6]
  by_cases c7 : kind = 7
  · subst c7
    rw [if_pos rfl]
    have s1 := test_table hT hn hTl
    generalize tabR T = r at *
    clear h h2 hT hTl hmu hsg
    refine Go.Ev.Fn.intro (fn := Tryz.f16) (body := (Tryz.f16).body.get!) (by kernel_rfl) (by kernel_rfl) (by kernel_rfl) (fun _ => rfl) (Nat.le_of_ble_eq_true (by kernel_rfl)) ?_; unfold Tryz.f16; simp only [Option.get!_some]
    repeat (first | (simp only [go_sem, Nat.reduceEqDiff, Nat.reduceAdd, Nat.reduceSub, Nat.reduceMul, Nat.reduceLeDiff, Nat.reduceLT, reduceIte, reduceCtorEq, Nat.succ_ne_zero, elemsC, Int.reduceToNat, Nat.reducePow]) | (simp (disch := (first | omega | (simp only [AL, List.length_map]; omega))) only [AR, AL, ifT, ifF, take_all, List.length_cons, List.length_nil, Int.reduceToNat, Int.reducePow, Nat.reducePow]) | (refine wk_intro (by kernel_rfl) ?_) | (refine vf_of (by first | exact s1) ?_))
  rw [if_neg c7]
  by_cases c8 : kind = 8
  · subst c8
    rw [if_pos rfl]
    have s1 := test_binom (kind := 8) (X := l.length) (Y := m.length) (xs := xs) (ys := ys) (tn := T.length) (tc := tc) (ss := ss) (ns := ns) (ds := ds) hmu bn bk
    generalize binR n k mu = r at *
    clear h h2 hT hTl hmu hsg
    refine Go.Ev.Fn.intro (fn := Tryz.f16) (body := (Tryz.f16).body.get!) (by kernel_rfl) (by kernel_rfl) (by kernel_rfl) (fun _ => rfl) (Nat.le_of_ble_eq_true (by kernel_rfl)) ?_; unfold Tryz.f16; simp only [Option.get!_some]
    repeat (first | (simp only [go_sem, Nat.reduceEqDiff, Nat.reduceAdd, Nat.reduceSub, Nat.reduceMul, Nat.reduceLeDiff, Nat.reduceLT, reduceIte, reduceCtorEq, Nat.succ_ne_zero, elemsC, Int.reduceToNat, Nat.reducePow]) | (simp (disch := (first | omega | (simp only [AL, List.length_map]; omega))) only [AR, AL, ifT, ifF, take_all, List.length_cons, List.length_nil, Int.reduceToNat, Int.reducePow, Nat.reducePow]) | (refine wk_intro (by kernel_rfl) ?_) | (refine vf_of (by first | exact s1) ?_))
  rw [if_neg c8]
  have r0 := rat_Int 0 (by omega)
  clear h h2 hT hTl hmu hsg
  refine Go.Ev.Fn.intro (fn := Tryz.f16) (body := (Tryz.f16).body.get!) (by kernel_rfl) (by kernel_rfl) (by kernel_rfl) (fun _ => rfl) (Nat.le_of_ble_eq_true (by kernel_rfl)) ?_; unfold Tryz.f16; simp only [Option.get!_some]
  repeat (first | (simp only [go_sem, Nat.reduceEqDiff, Nat.reduceAdd, Nat.reduceSub, Nat.reduceMul, Nat.reduceLeDiff, Nat.reduceLT, reduceIte, reduceCtorEq, Nat.succ_ne_zero, elemsC, Int.reduceToNat, Nat.reducePow]) | (simp (disch := (first | omega | (simp only [AL, List.length_map]; omega))) only [AR, AL, ifT, ifF, take_all, List.length_cons, List.length_nil, Int.reduceToNat, Int.reducePow, Nat.reducePow]) | (refine wk_intro (by kernel_rfl) ?_) | (refine vf_of (by first | exact r0) ?_))
  rfl
set_option maxHeartbeats 2000000 in
theorem ref19_raw (h : RowC xs l 1) (h2 : RowC ys m 1) (hl : l.length ≤ 12) (hm : m.length ≤ 12) (hT : TabC tc T 1) (hn : T.length ≤ 4) (hTl : ∀ r ∈ T, r.length ≤ 4) (hmu : RatA (ratV sm nm dm) mu 1) (hsg : RatA (ratV ss ns ds) sg 1)
    (bn : -9223372036854775808 ≤ n ∧ n < 9223372036854775808) (bk : -9223372036854775808 ≤ k ∧ k < 9223372036854775808) :
    Go.Ev.Fn CX 20 [testV kind (.sl l.length xs) (.sl m.length ys) (.sl T.length tc) sm nm dm ss ns ds k n] (resV (rawR kind l m T mu sg k n)) := by
  unfold rawR
  by_cases c1 : kind = 1
  · subst c1
    rw [if_pos rfl]
    have s1 := ref19_z (kind := 1) (k := k) (n := n) (tn := T.length) (Y := m.length) (ys := ys) (tc := tc) h hl hmu hsg (by omega) (by omega)
    generalize zR l mu sg = r at *
    clear h h2 hT hTl hmu hsg
    refine Go.Ev.Fn.intro (fn := Tryz.f20) (body := (Tryz.f20).body.get!) (by kernel_rfl) (by kernel_rfl) (by kernel_rfl) (fun _ => rfl) (Nat.le_of_ble_eq_true (by kernel_rfl)) ?_; unfold Tryz.f20; simp only [Option.get!_some]
    repeat (first | (simp only [go_sem, Nat.reduceEqDiff, Nat.reduceAdd, Nat.reduceSub, Nat.reduceMul, Nat.reduceLeDiff, Nat.reduceLT, reduceIte, reduceCtorEq, Nat.succ_ne_zero, elemsC, Int.reduceToNat, Nat.reducePow]) | (simp (disch := (first | omega | (simp only [AL, List.length_map]; omega))) only [AR, AL, ifT, ifF, take_all, List.length_cons, List.length_nil, Int.reduceToNat, Int.reducePow, Nat.reducePow]) | (refine wk_intro (by kernel_rfl) ?_) | (refine vf_of (by first | exact s1) ?_))
  rw [if_neg c1]
  by_cases c2 : kind = 2
  · subst c2
    rw [if_pos rfl]
    have s1 := ref19_student h hmu (by omega) (by omega) (by omega) (by omega) hl
    generalize stuR l mu = r at *
    clear h h2 hT hTl hmu hsg
    refine Go.Ev.Fn.intro (fn := Tryz.f20) (body := (Tryz.f20).body.get!) (by kernel_rfl) (by kernel_rfl) (by kernel_rfl) (fun _ => rfl) (Nat.le_of_ble_eq_true (by kernel_rfl)) ?_; unfold Tryz.f20; simp only [Option.get!_some]
    repeat (first | (simp only [go_sem, Nat.reduceEqDiff, Nat.reduceAdd, Nat.reduceSub, Nat.reduceMul, Nat.reduceLeDiff, Nat.reduceLT, reduceIte, reduceCtorEq, Nat.succ_ne_zero, elemsC, Int.reduceToNat, Nat.reducePow]) | (simp (disch := (first | omega | (simp only [AL, List.length_map]; omega))) only [AR, AL, ifT, ifF, take_all, List.length_cons, List.length_nil, Int.reduceToNat, Int.reducePow, Nat.reducePow]) | (refine wk_intro (by kernel_rfl) ?_) | (refine vf_of (by first | exact s1) ?_))
  rw [if_neg c2]
  by_cases c3 : kind = 3
  · subst c3
    rw [if_pos rfl]
    have s1 := ref19_paired (kind := 3) (k := k) (n := n) (tn := T.length) (tc := tc) (sm := sm) (nm := nm) (dm := dm) (ss := ss) (ns := ns) (ds := ds) h h2 hl hm
    generalize (if l.length ≠ m.length then ((0 : Rat), ([] : List Int), (1 : Int)) else stuR (List.zipWith (fun a b => a - b) l m) 0) = r at *
    clear h h2 hT hTl hmu hsg
    refine Go.Ev.Fn.intro (fn := Tryz.f20) (body := (Tryz.f20).body.get!) (by kernel_rfl) (by kernel_rfl) (by kernel_rfl) (fun _ => rfl) (Nat.le_of_ble_eq_true (by kernel_rfl)) ?_; unfold Tryz.f20; simp only [Option.get!_some]
    repeat (first | (simp only [go_sem, Nat.reduceEqDiff, Nat.reduceAdd, Nat.reduceSub, Nat.reduceMul, Nat.reduceLeDiff, Nat.reduceLT, reduceIte, reduceCtorEq, Nat.succ_ne_zero, elemsC, Int.reduceToNat, Nat.reducePow]) | (simp (disch := (first | omega | (simp only [AL, List.length_map]; omega))) only [AR, AL, ifT, ifF, take_all, List.length_cons, List.length_nil, Int.reduceToNat, Int.reducePow, Nat.reducePow]) | (refine wk_intro (by kernel_rfl) ?_) | (refine vf_of (by first | exact s1) ?_))
  rw [if_neg c3]
  by_cases c4 : kind = 4
  · subst c4
    rw [if_pos rfl]
    have s1 := ref19_pooled (kind := 4) (k := k) (n := n) (tn := T.length) (tc := tc) (sm := sm) (nm := nm) (dm := dm) (ss := ss) (ns := ns) (ds := ds) h h2 hl hm
    generalize poolR l m = r at *
    clear h h2 hT hTl hmu hsg
    refine Go.Ev.Fn.intro (fn := Tryz.f20) (body := (Tryz.f20).body.get!) (by kernel_rfl) (by kernel_rfl) (by kernel_rfl) (fun _ => rfl) (Nat.le_of_ble_eq_true (by kernel_rfl)) ?_; unfold Tryz.f20; simp only [Option.get!_some]
    repeat (first | (simp only [go_sem, Nat.reduceEqDiff, Nat.reduceAdd, Nat.reduceSub, Nat.reduceMul, Nat.reduceLeDiff, Nat.reduceLT, reduceIte, reduceCtorEq, Nat.succ_ne_zero, elemsC, Int.reduceToNat, Nat.reducePow]) | (simp (disch := (first | omega | (simp only [AL, List.length_map]; omega))) only [AR, AL, ifT, ifF, take_all, List.length_cons, List.length_nil, Int.reduceToNat, Int.reducePow, Nat.reducePow]) | (refine wk_intro (by kernel_rfl) ?_) | (refine vf_of (by first | exact s1) ?_))
  rw [if_neg c4]
  by_cases c5 : kind = 5
  · subst c5
    rw [if_pos rfl]
    have s1 := ref19_fisher (kind := 5) (k := k) (n := n) (tn := T.length) (tc := tc) (sm := sm) (nm := nm) (dm := dm) (ss := ss) (ns := ns) (ds := ds) h h2 hl hm
    generalize fisR l m = r at *
    clear h h2 hT hTl hmu hsg
    refine Go.Ev.Fn.intro (fn := Tryz.f20) (body := (Tryz.f20).body.get!) (by kernel_rfl) (by kernel_rfl) (by kernel_rfl) (fun _ => rfl) (Nat.le_of_ble_eq_true (by kernel_rfl)) ?_; unfold Tryz.f20; simp only [Option.get!_some]
    repeat (first | (simp only [go_sem, Nat.reduceEqDiff, Nat.reduceAdd, Nat.reduceSub, Nat.reduceMul, Nat.reduceLeDiff, Nat.reduceLT, reduceIte, reduceCtorEq, Nat.succ_ne_zero, elemsC, Int.reduceToNat, Nat.reducePow]) | (simp (disch := (first | omega | (simp only [AL, List.length_map]; omega))) only [AR, AL, ifT, ifF, take_all, List.length_cons, List.length_nil, Int.reduceToNat, Int.reducePow, Nat.reducePow]) | (refine wk_intro (by kernel_rfl) ?_) | (refine vf_of (by first | exact s1) ?_))
  rw [if_neg c5]
  by_cases c6 : kind = 6
  · subst c6
    rw [if_pos rfl]
    have s1 := ref19_fit (kind := 6) (k := k) (n := n) (tn := T.length) (tc := tc) (sm := sm) (nm := nm) (dm := dm) (ss := ss) (ns := ns) (ds := ds) h h2 hl hm
    generalize fitR l m = r at *
    clear h h2 hT hTl hmu hsg
    refine Go.Ev.Fn.intro (fn := Tryz.f20) (body := (Tryz.f20).body.get!) (by kernel_rfl) (by kernel_rfl) (by kernel_rfl) (fun _ => rfl) (Nat.le_of_ble_eq_true (by kernel_rfl)) ?_; unfold Tryz.f20; simp only [Option.get!_some]
    repeat (first | (simp only [go_sem, Nat.reduceEqDiff, Nat.reduceAdd, Nat.reduceSub, Nat.reduceMul, Nat.reduceLeDiff, Nat.reduceLT, reduceIte, reduceCtorEq, Nat.succ_ne_zero, elemsC, Int.reduceToNat, Nat.reducePow]) | (simp (disch := (first | omega | (simp only [AL, List.length_map]; omega))) only [AR, AL, ifT, ifF, take_all, List.length_cons, List.length_nil, Int.reduceToNat, Int.reducePow, Nat.reducePow]) | (refine wk_intro (by kernel_rfl) ?_) | (refine vf_of (by first | exact s1) ?_))
  rw [if_neg c6]
  by_cases c7 : kind = 7
  · subst c7
    rw [if_pos rfl]
    have s1 := ref19_table (kind := 7) (k := k) (n := n) (X' := l.length) (Y := m.length) (xs := xs) (ys := ys) (sm := sm) (nm := nm) (dm := dm) (ss := ss) (ns := ns) (ds := ds) hT hn hTl
    generalize tabR T = r at *
    clear h h2 hT hTl hmu hsg
    refine Go.Ev.Fn.intro (fn := Tryz.f20) (body := (Tryz.f20).body.get!) (by kernel_rfl) (by kernel_rfl) (by kernel_rfl) (fun _ => rfl) (Nat.le_of_ble_eq_true (by kernel_rfl)) ?_; unfold Tryz.f20; simp only [Option.get!_some]
    repeat (first | (simp only [go_sem, Nat.reduceEqDiff, Nat.reduceAdd, Nat.reduceSub, Nat.reduceMul, Nat.reduceLeDiff, Nat.reduceLT, reduceIte, reduceCtorEq, Nat.succ_ne_zero, elemsC, Int.reduceToNat, Nat.reducePow]) | (simp (disch := (first | omega | (simp only [AL, List.length_map]; omega))) only [AR, AL, ifT, ifF, take_all, List.length_cons, List.length_nil, Int.reduceToNat, Int.reducePow, Nat.reducePow]) | (refine wk_intro (by kernel_rfl) ?_) | (refine vf_of (by first | exact s1) ?_))
  rw [if_neg c7]
  by_cases c8 : kind = 8
  · subst c8
    rw [if_pos rfl]
    have s1 := ref19_binom (kind := 8) (X := l.length) (Y := m.length) (xs := xs) (ys := ys) (tn := T.length) (tc := tc) (ss := ss) (ns := ns) (ds := ds) hmu bn bk
    generalize binR n k mu = r at *
    clear h h2 hT hTl hmu hsg
    refine Go.Ev.Fn.intro (fn := Tryz.f20) (body := (Tryz.f20).body.get!) (by kernel_rfl) (by kernel_rfl) (by kernel_rfl) (fun _ => rfl) (Nat.le_of_ble_eq_true (by kernel_rfl)) ?_; unfold Tryz.f20; simp only [Option.get!_some]
    repeat (first | (simp only [go_sem, Nat.reduceEqDiff, Nat.reduceAdd, Nat.reduceSub, Nat.reduceMul, Nat.reduceLeDiff, Nat.reduceLT, reduceIte, reduceCtorEq, Nat.succ_ne_zero, elemsC, Int.reduceToNat, Nat.reducePow]) | (simp (disch := (first | omega | (simp only [AL, List.length_map]; omega))) only [AR, AL, ifT, ifF, take_all, List.length_cons, List.length_nil, Int.reduceToNat, Int.reducePow, Nat.reducePow]) | (refine wk_intro (by kernel_rfl) ?_) | (refine vf_of (by first | exact s1) ?_))
  rw [if_neg c8]
  have r0 := ref19_zero
  clear h h2 hT hTl hmu hsg
  refine Go.Ev.Fn.intro (fn := Tryz.f20) (body := (Tryz.f20).body.get!) (by kernel_rfl) (by kernel_rfl) (by kernel_rfl) (fun _ => rfl) (Nat.le_of_ble_eq_true (by kernel_rfl)) ?_; unfold Tryz.f20; simp only [Option.get!_some]
  repeat (first | (simp only [go_sem, Nat.reduceEqDiff, Nat.reduceAdd, Nat.reduceSub, Nat.reduceMul, Nat.reduceLeDiff, Nat.reduceLT, reduceIte, reduceCtorEq, Nat.succ_ne_zero, elemsC, Int.reduceToNat, Nat.reducePow]) | (simp (disch := (first | omega | (simp only [AL, List.length_map]; omega))) only [AR, AL, ifT, ifF, take_all, List.length_cons, List.length_nil, Int.reduceToNat, Int.reducePow, Nat.reducePow]) | (refine wk_intro (by kernel_rfl) ?_) | (refine vf_of (by first | exact r0) ?_))
end
theorem ref19_chi (kind : Int) : Go.Ev.Fn CX 22 [.int .i64 kind] (.bool (decide (kind = 1 ∨ kind = 6 ∨ kind = 7))) := by
  by_cases h1 : kind = 1
  · subst h1
    rw [decide_eq_true (by omega)]
    refine Go.Ev.Fn.intro (fn := Tryz.f22) (body := (Tryz.f22).body.get!) (by kernel_rfl) (by kernel_rfl) (by kernel_rfl) (fun _ => rfl) (Nat.le_of_ble_eq_true (by kernel_rfl)) ?_; unfold Tryz.f22; simp only [Option.get!_some]
    repeat (first | (simp only [go_sem, Nat.reduceEqDiff, Nat.reduceAdd, Nat.reduceSub, Nat.reduceMul, Nat.reduceLeDiff, Nat.reduceLT, reduceIte, reduceCtorEq, Nat.succ_ne_zero, elemsC, Int.reduceToNat, Nat.reducePow]) | (simp (disch := (first | omega | (simp only [AL, List.length_map]; omega))) only [AR, AL, ifT, ifF, take_all, List.length_cons, List.length_nil, Int.reduceToNat, Int.reducePow, Nat.reducePow]) | (refine wk_intro (by kernel_rfl) ?_))
  by_cases h2 : kind = 6
  · subst h2
    rw [decide_eq_true (by omega)]
    refine Go.Ev.Fn.intro (fn := Tryz.f22) (body := (Tryz.f22).body.get!) (by kernel_rfl) (by kernel_rfl) (by kernel_rfl) (fun _ => rfl) (Nat.le_of_ble_eq_true (by kernel_rfl)) ?_; unfold Tryz.f22; simp only [Option.get!_some]
    repeat (first | (simp only [go_sem, Nat.reduceEqDiff, Nat.reduceAdd, Nat.reduceSub, Nat.reduceMul, Nat.reduceLeDiff, Nat.reduceLT, reduceIte, reduceCtorEq, Nat.succ_ne_zero, elemsC, Int.reduceToNat, Nat.reducePow]) | (simp (disch := (first | omega | (simp only [AL, List.length_map]; omega))) only [AR, AL, ifT, ifF, take_all, List.length_cons, List.length_nil, Int.reduceToNat, Int.reducePow, Nat.reducePow]) | (refine wk_intro (by kernel_rfl) ?_))
  by_cases h3 : kind = 7
  · subst h3
    rw [decide_eq_true (by omega)]
    refine Go.Ev.Fn.intro (fn := Tryz.f22) (body := (Tryz.f22).body.get!) (by kernel_rfl) (by kernel_rfl) (by kernel_rfl) (fun _ => rfl) (Nat.le_of_ble_eq_true (by kernel_rfl)) ?_; unfold Tryz.f22; simp only [Option.get!_some]
    repeat (first | (simp only [go_sem, Nat.reduceEqDiff, Nat.reduceAdd, Nat.reduceSub, Nat.reduceMul, Nat.reduceLeDiff, Nat.reduceLT, reduceIte, reduceCtorEq, Nat.succ_ne_zero, elemsC, Int.reduceToNat, Nat.reducePow]) | (simp (disch := (first | omega | (simp only [AL, List.length_map]; omega))) only [AR, AL, ifT, ifF, take_all, List.length_cons, List.length_nil, Int.reduceToNat, Int.reducePow, Nat.reducePow]) | (refine wk_intro (by kernel_rfl) ?_))
  rw [decide_eq_false (by omega)]
  refine Go.Ev.Fn.intro (fn := Tryz.f22) (body := (Tryz.f22).body.get!) (by kernel_rfl) (by kernel_rfl) (by kernel_rfl) (fun _ => rfl) (Nat.le_of_ble_eq_true (by kernel_rfl)) ?_; unfold Tryz.f22; simp only [Option.get!_some]
  repeat (first | (simp only [go_sem, Nat.reduceEqDiff, Nat.reduceAdd, Nat.reduceSub, Nat.reduceMul, Nat.reduceLeDiff, Nat.reduceLT, reduceIte, reduceCtorEq, Nat.succ_ne_zero, elemsC, Int.reduceToNat, Nat.reducePow]) | (simp (disch := (first | omega | (simp only [AL, List.length_map]; omega))) only [AR, AL, ifT, ifF, take_all, List.length_cons, List.length_nil, Int.reduceToNat, Int.reducePow, Nat.reducePow]) | (refine wk_intro (by kernel_rfl) ?_))
section
variable {kind k n : Int} {X Y tn : Nat} {xs ys tc : List SV} {sm ss : Bool} {nm dm ns ds : List Nat}
set_option maxHeartbeats 1000000 in
theorem ref19_Statistic {r : Res} (h : Go.Ev.Fn CX 20 [testV kind (.sl X xs) (.sl Y ys) (.sl tn tc) sm nm dm ss ns ds k n] (resV r)) (hz : szR r.1 1000000) (hd : r.2.1.length ≤ 1000) :
    Go.Ev.Fn CX 7 [testV kind (.sl X xs) (.sl Y ys) (.sl tn tc) sm nm dm ss ns ds k n] (resV (statR kind r)) := by
  obtain ⟨q, dg, e⟩ := r
  unfold statR
  have r0 := ref19_zero
  have r1 := ref2_Int 128 (by omega)
  have hc := ref19_chi kind
  have h2 := ref2_Cmp (RatA_rv hz) (RatA_rv (int_szR (n := 128) (by omega))) (by omega) (by omega) (by omega)
  have e2 : decide (cmpR q ((128 : Int) : Rat) > 0) = decide (128 < q) := cmpR_gt
  have hat := fun {i : Nat} (h : i < dg.length) => ints_at dg h
  have hln : (dg.map fun i => SV.int .i64 i).length = dg.length := List.length_map _
  simp only at h hz hd ⊢
  by_cases he : e = 0
  · subst he
    rw [if_neg (by simp)]
    have h' : Go.Ev.Fn CX 20 [testV kind (.sl X xs) (.sl Y ys) (.sl tn tc) sm nm dm ss ns ds k n] (.tup [rv q, .sl dg.length (dg.map fun i => SV.int .i64 i), .int .i64 0]) := h
    generalize hcs : (dg.map fun i => SV.int .i64 i) = cs at *
    clear h hz
    by_cases hany : dg.any (fun d => decide (256 < d)) = true
    · rw [if_pos hany]
      refine Go.Ev.Fn.intro (fn := Tryz.f7) (body := (Tryz.f7).body.get!) (by kernel_rfl) (by kernel_rfl) (by kernel_rfl) (fun _ => rfl) (Nat.le_of_ble_eq_true (by kernel_rfl)) ?_; unfold Tryz.f7; simp only [Option.get!_some]
      repeat (first | (simp only [go_sem, Nat.reduceEqDiff, Nat.reduceAdd, Nat.reduceSub, Nat.reduceMul, Nat.reduceLeDiff, Nat.reduceLT, reduceIte, reduceCtorEq, Nat.succ_ne_zero, elemsC, Int.reduceToNat, Nat.reducePow]) | (simp (disch := (first | omega | (simp only [AL, List.length_map]; omega))) only [AR, AL, ifT, ifF, take_all, List.length_cons, List.length_nil, Int.reduceToNat, Int.reducePow, Nat.reducePow]) | (refine wk_intro (by kernel_rfl) ?_) | (refine vp_draw (id := 9) (l := []) (by kernel_rfl) ?_) | (refine vf_of (by first | exact h') ?_))
      refine vp_loop_inv (fun s => s.tmp 2 = .ptr 2 0 0 ∧ s.obj 2 0 = some [.bool false, .sl 0 [], .sl 0 []] ∧ s.tmp 6 = .sv (.sl dg.length cs) ∧
          ∃ i : Nat, s.tmp 8 = .sv (.int .i64 (i : Int)) ∧ i ≤ dg.length ∧ (dg.take i).any (fun d => decide (256 < d)) = false)
        (fun s => match s.tmp 8 with | .sv (.int _ i) => dg.length - i.toNat | _ => 0) ⟨rfl, rfl, rfl, 0, rfl, by omega, rfl⟩ ?_
      rintro s2 ⟨i2, iO, i6, i, i8, hi, hb⟩
      by_cases hend : i = dg.length
      · subst hend
        rw [List.take_length, hany] at hb
        cases hb
      · have g1 := hat (i := i) (by omega)
        have hor := any_take (fun d => decide (256 < d)) dg (0 : Int) (i := i) (by omega)
        rw [hb, Bool.false_or] at hor
        generalize dg.getD i 0 = d at *
        clear hat hany
        by_cases hdd : 256 < d
        · clear hor
          repeat (first | (simp only [go_sem, Nat.reduceEqDiff, Nat.reduceAdd, Nat.reduceSub, Nat.reduceMul, Nat.reduceLeDiff, Nat.reduceLT, reduceIte, reduceCtorEq, Nat.succ_ne_zero, elemsC, Int.reduceToNat, Nat.reducePow, i2, iO, i6, i8, g1, hln]) | (simp (disch := (first | omega | (simp only [AL, List.length_map]; omega))) only [AR, AL, ifT, ifF, take_all, List.length_cons, List.length_nil, Int.reduceToNat, Int.reducePow, Nat.reducePow, i2, iO, i6, i8, g1, hln]) | (refine wk_intro (by kernel_rfl) ?_) | (refine vp_draw (id := 9) (l := []) (by kernel_rfl) ?_) | (refine vf_of (by first | exact r0) ?_))
        · rw [decide_eq_false hdd] at hor
          repeat (first | (simp only [go_sem, Nat.reduceEqDiff, Nat.reduceAdd, Nat.reduceSub, Nat.reduceMul, Nat.reduceLeDiff, Nat.reduceLT, reduceIte, reduceCtorEq, Nat.succ_ne_zero, elemsC, Int.reduceToNat, Nat.reducePow, i2, iO, i6, i8, g1, hln]) | (simp (disch := (first | omega | (simp only [AL, List.length_map]; omega))) only [AR, AL, ifT, ifF, take_all, List.length_cons, List.length_nil, Int.reduceToNat, Int.reducePow, Nat.reducePow, i2, iO, i6, i8, g1, hln]) | (refine wk_intro (by kernel_rfl) ?_) | (refine vp_draw (id := 9) (l := []) (by kernel_rfl) ?_))
          exact ⟨⟨i + 1, rfl, by omega, hor⟩, by omega⟩
    · rw [if_neg hany]
      have hall : ∀ i, i < dg.length → dg.getD i 0 ≤ 256 := by
        intro i hi
        have := fun h => hany (any_of_getD (fun d => decide (256 < d)) dg (0 : Int) hi h)
        have h3 : ¬ 256 < dg.getD i 0 := fun h => this (decide_eq_true h)
        omega
      clear hany
      refine Go.Ev.Fn.intro (fn := Tryz.f7) (body := (Tryz.f7).body.get!) (by kernel_rfl) (by kernel_rfl) (by kernel_rfl) (fun _ => rfl) (Nat.le_of_ble_eq_true (by kernel_rfl)) ?_; unfold Tryz.f7; simp only [Option.get!_some]
      repeat (first | (simp only [go_sem, Nat.reduceEqDiff, Nat.reduceAdd, Nat.reduceSub, Nat.reduceMul, Nat.reduceLeDiff, Nat.reduceLT, reduceIte, reduceCtorEq, Nat.succ_ne_zero, elemsC, Int.reduceToNat, Nat.reducePow]) | (simp (disch := (first | omega | (simp only [AL, List.length_map]; omega))) only [AR, AL, ifT, ifF, take_all, List.length_cons, List.length_nil, Int.reduceToNat, Int.reducePow, Nat.reducePow]) | (refine wk_intro (by kernel_rfl) ?_) | (refine vp_draw (id := 9) (l := []) (by kernel_rfl) ?_) | (refine vf_of (by first | exact h') ?_))
      refine vp_loop_inv (fun s => s.tmp 1 = .ptr 1 0 0 ∧ s.obj 1 0 = some [.int .i64 kind, .sl X xs, .sl Y ys, .sl tn tc, .bool sm, natV nm, natV dm, .bool ss, natV ns, natV ds, .int .i64 k, .int .i64 n] ∧ s.tmp 2 = .ptr 2 0 0 ∧ s.obj 2 0 = some [.bool false, .sl 0 [], .sl 0 []] ∧ s.tmp 5 = .ptr 5 0 0 ∧ s.obj 5 0 = some (rvC q) ∧ s.tmp 6 = .sv (.sl dg.length cs) ∧
          ∃ i : Nat, s.tmp 8 = .sv (.int .i64 (i : Int)) ∧ i ≤ dg.length)
        (fun s => match s.tmp 8 with | .sv (.int _ i) => dg.length - i.toNat | _ => 0) ⟨rfl, rfl, rfl, rfl, rfl, rfl, rfl, 0, rfl, by omega⟩ ?_
      rintro s2 ⟨i1, oA, i2, iO, i5, oB, i6, i, i8, hi⟩
      by_cases hend : i = dg.length
      · subst hend
        clear hall hat
        by_cases hk : kind = 1 ∨ kind = 6 ∨ kind = 7
        · rw [decide_eq_true hk] at hc
          by_cases hq : 128 < q
          · rw [if_pos ⟨hk, hq⟩]
            rw [decide_eq_true hq] at e2
            clear hk hq
            repeat (first | (simp only [go_sem, Nat.reduceEqDiff, Nat.reduceAdd, Nat.reduceSub, Nat.reduceMul, Nat.reduceLeDiff, Nat.reduceLT, reduceIte, reduceCtorEq, Nat.succ_ne_zero, elemsC, Int.reduceToNat, Nat.reducePow, i1, oA, i2, iO, i5, oB, i6, i8, rvC, e2]) | (simp (disch := (first | omega | (simp only [AL, List.length_map]; omega))) only [AR, AL, ifT, ifF, take_all, List.length_cons, List.length_nil, Int.reduceToNat, Int.reducePow, Nat.reducePow, i1, oA, i2, iO, i5, oB, i6, i8, rvC, e2]) | (refine wk_intro (by kernel_rfl) ?_) | (refine vp_draw (id := 9) (l := []) (by kernel_rfl) ?_) | (refine vf_of (by first | exact hc | exact r1 | exact h2 | exact r0) ?_))
          · rw [if_neg (fun h => hq h.2)]
            rw [decide_eq_false hq] at e2
            clear hk hq
            repeat (first | (simp only [go_sem, Nat.reduceEqDiff, Nat.reduceAdd, Nat.reduceSub, Nat.reduceMul, Nat.reduceLeDiff, Nat.reduceLT, reduceIte, reduceCtorEq, Nat.succ_ne_zero, elemsC, Int.reduceToNat, Nat.reducePow, i1, oA, i2, iO, i5, oB, i6, i8, rvC, e2]) | (simp (disch := (first | omega | (simp only [AL, List.length_map]; omega))) only [AR, AL, ifT, ifF, take_all, List.length_cons, List.length_nil, Int.reduceToNat, Int.reducePow, Nat.reducePow, i1, oA, i2, iO, i5, oB, i6, i8, rvC, e2]) | (refine wk_intro (by kernel_rfl) ?_) | (refine vp_draw (id := 9) (l := []) (by kernel_rfl) ?_) | (refine vf_of (by first | exact hc | exact r1 | exact h2) ?_))
            rw [hcs]
        · rw [if_neg (fun h => hk h.1)]
          rw [decide_eq_false hk] at hc
          clear hk
          repeat (first | (simp only [go_sem, Nat.reduceEqDiff, Nat.reduceAdd, Nat.reduceSub, Nat.reduceMul, Nat.reduceLeDiff, Nat.reduceLT, reduceIte, reduceCtorEq, Nat.succ_ne_zero, elemsC, Int.reduceToNat, Nat.reducePow, i1, oA, i2, iO, i5, oB, i6, i8, rvC]) | (simp (disch := (first | omega | (simp only [AL, List.length_map]; omega))) only [AR, AL, ifT, ifF, take_all, List.length_cons, List.length_nil, Int.reduceToNat, Int.reducePow, Nat.reducePow, i1, oA, i2, iO, i5, oB, i6, i8, rvC]) | (refine wk_intro (by kernel_rfl) ?_) | (refine vp_draw (id := 9) (l := []) (by kernel_rfl) ?_) | (refine vf_of (by first | exact hc) ?_))
          rw [hcs]
      · have g1 := hat (i := i) (by omega)
        have g2 := hall i (by omega)
        generalize dg.getD i 0 = d at *
        clear hat hall
        repeat (first | (simp only [go_sem, Nat.reduceEqDiff, Nat.reduceAdd, Nat.reduceSub, Nat.reduceMul, Nat.reduceLeDiff, Nat.reduceLT, reduceIte, reduceCtorEq, Nat.succ_ne_zero, elemsC, Int.reduceToNat, Nat.reducePow, i1, oA, i2, iO, i5, oB, i6, i8, g1, hln]) | (simp (disch := (first | omega | (simp only [AL, List.length_map]; omega))) only [AR, AL, ifT, ifF, take_all, List.length_cons, List.length_nil, Int.reduceToNat, Int.reducePow, Nat.reducePow, i1, oA, i2, iO, i5, oB, i6, i8, g1, hln]) | (refine wk_intro (by kernel_rfl) ?_) | (refine vp_draw (id := 9) (l := []) (by kernel_rfl) ?_))
        exact ⟨⟨i + 1, rfl, by omega⟩, by omega⟩
  · rw [if_pos he]
    have h' : Go.Ev.Fn CX 20 [testV kind (.sl X xs) (.sl Y ys) (.sl tn tc) sm nm dm ss ns ds k n] (.tup [rv q, .sl dg.length (dg.map fun i => SV.int .i64 i), .int .i64 e]) := h
    clear h hz
    refine Go.Ev.Fn.intro (fn := Tryz.f7) (body := (Tryz.f7).body.get!) (by kernel_rfl) (by kernel_rfl) (by kernel_rfl) (fun _ => rfl) (Nat.le_of_ble_eq_true (by kernel_rfl)) ?_; unfold Tryz.f7; simp only [Option.get!_some]
    repeat (first | (simp only [go_sem, Nat.reduceEqDiff, Nat.reduceAdd, Nat.reduceSub, Nat.reduceMul, Nat.reduceLeDiff, Nat.reduceLT, reduceIte, reduceCtorEq, Nat.succ_ne_zero, elemsC, Int.reduceToNat, Nat.reducePow]) | (simp (disch := (first | omega | (simp only [AL, List.length_map]; omega))) only [AR, AL, ifT, ifF, take_all, List.length_cons, List.length_nil, Int.reduceToNat, Int.reducePow, Nat.reducePow]) | (refine wk_intro (by kernel_rfl) ?_) | (refine vp_draw (id := 9) (l := []) (by kernel_rfl) ?_) | (refine vf_of (by first | exact h' | exact r0) ?_))
end
end Go.Proofs.YtdnmhnjblgkjaaaGreat
