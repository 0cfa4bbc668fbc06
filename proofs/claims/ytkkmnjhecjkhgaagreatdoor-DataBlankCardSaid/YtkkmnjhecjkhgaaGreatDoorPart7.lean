/- Part 7 of the proof: the evaluator, contracts of functions and their plain laws (joined by program). No condition. -/
import Derived.Test.YtkkmnjhecjkhgaaGreatDoorPart6
set_option linter.unusedVariables false
set_option linter.unusedSimpArgs false
set_option maxRecDepth 100000
namespace Go.Proofs.YtkkmnjhecjkhgaaGreatDoor
open Go.Ev
theorem pm_set (l : List UInt8) : Lib.trimLeftS l [43, 45] = l.dropWhile isPM := by
  unfold Lib.trimLeftS
  congr 1
  funext b
  unfold isPM
  simp only [List.contains_cons, List.contains_nil, Bool.or_false]
theorem dec_from : ∀ {l : List UInt8} (a : Nat), digs l = true → Lib.decFrom a l = some (l.foldl (fun a b => a * 10 + (b.toNat - 48)) a) := by
  intro l
  induction l with
  | nil => intro a _; rfl
  | cons b l ih =>
    intro a h
    unfold digs at h
    rw [List.all_cons, Bool.and_eq_true] at h
    have hb := h.1
    unfold dig at hb
    simp only [Bool.and_eq_true, decide_eq_true_eq] at hb
    have hd : Lib.digitVal b = some (b.toNat - 48) := by unfold Lib.digitVal; rw [if_pos hb]
    rw [Lib.decFrom, hd]
    exact ih _ h.2
theorem dec_nat {l : List UInt8} (h0 : l ≠ []) (h : digs l = true) : Lib.decNat l = some (natD l) := by
  unfold Lib.decNat
  rw [if_neg (by simpa using h0), dec_from 0 h]
  rfl
theorem atoi_is {l : List UInt8} (h1 : l.length - (l.dropWhile isPM).length ≤ 1) (h2 : 1 ≤ (l.dropWhile isPM).length) (h3 : digs (l.dropWhile isPM) = true) :
    Lib.atoi l = some (if l.head? = some 45 then - (natD (l.dropWhile isPM) : Int) else (natD (l.dropWhile isPM) : Int)) := by
  cases l with
  | nil => simp at h2
  | cons b r =>
    cases hb : isPM b with
    | false =>
      rw [List.dropWhile_cons, hb] at h2 h3 ⊢
      simp only [Bool.false_eq_true, if_false] at h2 h3 ⊢
      unfold isPM at hb
      rw [Bool.or_eq_false_iff] at hb
      have e45 : ¬ b = 45 := by simpa using hb.2
      rw [Lib.atoi, hb.1, hb.2, dec_nat (by simp) h3]
      simp [e45]
    | true =>
      rw [List.dropWhile_cons, hb] at h1 h2 h3 ⊢
      simp only [if_true] at h1 h2 h3 ⊢
      have hr : r.dropWhile isPM = r := by
        have hle := (List.dropWhile_sublist (l := r) isPM).length_le
        have : (r.dropWhile isPM).length = r.length := by simp at h1; omega
        exact (List.dropWhile_sublist isPM).eq_of_length this
      rw [hr] at h2 h3 ⊢
      have h0 : r ≠ [] := fun e => by subst e; simp at h2
      rw [Lib.atoi, dec_nat h0 h3]
      unfold isPM at hb
      rw [Bool.or_eq_true] at hb
      rcases hb with hb | hb
      · have e : b = 43 := by simpa using hb
        subst e
        rfl
      · have e : b = 45 := by simpa using hb
        subst e
        rfl
theorem x_atoi {l : List UInt8} {v : Int} (h : l.length ≤ 18) (hv : Lib.atoi l = some v) : Go.Ev.Fn CX 91 [.str (bs l)] (.tup [.int .i64 v, .con .nilIface]) := by
  refine ⟨1, List.replicate 1 none, ?_⟩
  have h3 : xAtoi [.sv (.str (bs l))] = some (.sv (.tup [.int .i64 v, .con .nilIface]), List.replicate 1 none) := by
    unfold xAtoi
    simp only [bs_toList, bs_size, hv]
    rw [if_pos h]
  have h4 : CX.X 91 ([SV.str (bs l)].map Arg.sv) = some (.sv (.tup [.int .i64 v, .con .nilIface]), List.replicate 1 none) := h3
  unfold callN
  rw [h4]
theorem data_exponent (l : List UInt8) (hl : l.length ≤ 1048576) : ∃ k : Int, Go.Ev.Fn CX 56 [.str (bs l)] (.tup [.int .i64 k, .bool (expP l).isSome]) ∧ ∀ v, expP l = some v → v = k ∧ -30 ≤ k ∧ k ≤ 30 := by
  have htl := x_trimLeft l [43, 45] (by decide) (by decide)
  rw [pm_set] at htl
  have hle := (List.dropWhile_sublist (l := l) isPM).length_le
  have ht := x_trim (l.dropWhile isPM) D10 (by omega) (by decide) (by decide)
  have htd := trim_digs (l.dropWhile isPM)
  unfold D10 at ht htd
  by_cases hc : l.length - (l.dropWhile isPM).length > 1 ∨ (l.dropWhile isPM).length < 1 ∨ (l.dropWhile isPM).length > 2 ∨ digs (l.dropWhile isPM) = false
  · have e : expP l = none := by unfold expP; rw [if_pos hc]
    rw [e]
    refine ⟨0, ?_, fun v h => by cases h⟩
    rw [Option.isSome_none]
    clear e
    generalize hd : l.dropWhile isPM = d at *
    by_cases h1 : l.length - d.length > 1
    · refine Go.Ev.Fn.intro (fn := Tryz.f56) (body := (Tryz.f56).body.get!) (by kernel_rfl) (by kernel_rfl) (by kernel_rfl) (fun _ => rfl) (Nat.le_of_ble_eq_true (by kernel_rfl)) ?_; unfold Tryz.f56; simp only [Option.get!_some]
      repeat (first | (simp only [go_sem, Nat.reduceEqDiff, Nat.reduceAdd, Nat.reduceSub, Nat.reduceMul, Nat.reduceLeDiff, Nat.reduceLT, reduceIte, reduceCtorEq, Nat.succ_ne_zero, elemsC, Int.reduceToNat, Nat.reducePow, mk_bs, bs_size]) | (simp (disch := (first | omega | (simp only [AL, List.length_map]; omega))) only [AR, AL, ifT, ifF, take_all, List.length_cons, List.length_nil, Int.reduceToNat, Int.reducePow, Nat.reducePow, mk_bs, bs_size]) | (refine wk_intro (by kernel_rfl) ?_) | (refine vf_of (by first | exact htl) ?_))
    by_cases h2 : d.length < 1
    · refine Go.Ev.Fn.intro (fn := Tryz.f56) (body := (Tryz.f56).body.get!) (by kernel_rfl) (by kernel_rfl) (by kernel_rfl) (fun _ => rfl) (Nat.le_of_ble_eq_true (by kernel_rfl)) ?_; unfold Tryz.f56; simp only [Option.get!_some]
      repeat (first | (simp only [go_sem, Nat.reduceEqDiff, Nat.reduceAdd, Nat.reduceSub, Nat.reduceMul, Nat.reduceLeDiff, Nat.reduceLT, reduceIte, reduceCtorEq, Nat.succ_ne_zero, elemsC, Int.reduceToNat, Nat.reducePow, mk_bs, bs_size]) | (simp (disch := (first | omega | (simp only [AL, List.length_map]; omega))) only [AR, AL, ifT, ifF, take_all, List.length_cons, List.length_nil, Int.reduceToNat, Int.reducePow, Nat.reducePow, mk_bs, bs_size]) | (refine wk_intro (by kernel_rfl) ?_) | (refine vf_of (by first | exact htl) ?_))
    by_cases h3 : d.length > 2
    · refine Go.Ev.Fn.intro (fn := Tryz.f56) (body := (Tryz.f56).body.get!) (by kernel_rfl) (by kernel_rfl) (by kernel_rfl) (fun _ => rfl) (Nat.le_of_ble_eq_true (by kernel_rfl)) ?_; unfold Tryz.f56; simp only [Option.get!_some]
      repeat (first | (simp only [go_sem, Nat.reduceEqDiff, Nat.reduceAdd, Nat.reduceSub, Nat.reduceMul, Nat.reduceLeDiff, Nat.reduceLT, reduceIte, reduceCtorEq, Nat.succ_ne_zero, elemsC, Int.reduceToNat, Nat.reducePow, mk_bs, bs_size]) | (simp (disch := (first | omega | (simp only [AL, List.length_map]; omega))) only [AR, AL, ifT, ifF, take_all, List.length_cons, List.length_nil, Int.reduceToNat, Int.reducePow, Nat.reducePow, mk_bs, bs_size]) | (refine wk_intro (by kernel_rfl) ?_) | (refine vf_of (by first | exact htl) ?_))
    · have h4 : digs d = false := by
        rcases hc with h | h | h | h
        · exact absurd h h1
        · exact absurd h h2
        · exact absurd h h3
        · exact h
      rw [h4] at htd
      refine Go.Ev.Fn.intro (fn := Tryz.f56) (body := (Tryz.f56).body.get!) (by kernel_rfl) (by kernel_rfl) (by kernel_rfl) (fun _ => rfl) (Nat.le_of_ble_eq_true (by kernel_rfl)) ?_; unfold Tryz.f56; simp only [Option.get!_some]
      repeat (first | (simp only [go_sem, Nat.reduceEqDiff, Nat.reduceAdd, Nat.reduceSub, Nat.reduceMul, Nat.reduceLeDiff, Nat.reduceLT, reduceIte, reduceCtorEq, Nat.succ_ne_zero, elemsC, Int.reduceToNat, Nat.reducePow, mk_bs, bs_size, bs_list, htd, Bool.not_false]) | (simp (disch := (first | omega | (simp only [AL, List.length_map]; omega))) only [AR, AL, ifT, ifF, take_all, List.length_cons, List.length_nil, Int.reduceToNat, Int.reducePow, Nat.reducePow, mk_bs, bs_size, bs_list, htd, Bool.not_false]) | (refine wk_intro (by kernel_rfl) ?_) | (refine vf_of (by first | exact htl | exact ht) ?_))
  · have e : expP l = if natD (l.dropWhile isPM) ≤ 30 then some (if l.head? = some 45 then - (natD (l.dropWhile isPM) : Int) else (natD (l.dropWhile isPM) : Int)) else none := by unfold expP; rw [if_neg hc]
    rw [e]
    clear e
    simp only [not_or, Nat.not_lt] at hc
    obtain ⟨h1, h2, h3, h4⟩ := hc
    have h4 : digs (l.dropWhile isPM) = true := by simpa using h4
    have ha := x_atoi (l := l) (by omega) (atoi_is (by omega) (by omega) h4)
    rw [h4] at htd
    have hn : natD (l.dropWhile isPM) < 100 := by
      have := natD_lt h4
      have h5 : 10 ^ (l.dropWhile isPM).length ≤ 10 ^ 2 := Nat.pow_le_pow_right (by omega) (by omega)
      omega
    generalize natD (l.dropWhile isPM) = n at *
    generalize hd : l.dropWhile isPM = d at *
    have hv : (if l.head? = some 45 then - (n : Int) else (n : Int)).natAbs = n := by split <;> omega
    generalize (if l.head? = some 45 then - (n : Int) else (n : Int)) = v at *
    have e1 : IntKind.i64.wrap (0 - v) = -v := by rw [wI64 (by omega)]; omega
    have e2 : (if -v > v then -v else v) = (n : Int) := by split <;> omega
    refine ⟨v, ?_, fun u hu => by
      split at hu
      · cases hu; omega
      · cases hu⟩
    by_cases hn30 : n ≤ 30
    · rw [if_pos hn30, Option.isSome_some]
      have e3 : decide ((n : Int) ≤ 30) = true := decide_eq_true (by omega)
      refine Go.Ev.Fn.intro (fn := Tryz.f56) (body := (Tryz.f56).body.get!) (by kernel_rfl) (by kernel_rfl) (by kernel_rfl) (fun _ => rfl) (Nat.le_of_ble_eq_true (by kernel_rfl)) ?_; unfold Tryz.f56; simp only [Option.get!_some]
      repeat (first | (simp only [go_sem, Nat.reduceEqDiff, Nat.reduceAdd, Nat.reduceSub, Nat.reduceMul, Nat.reduceLeDiff, Nat.reduceLT, reduceIte, reduceCtorEq, Nat.succ_ne_zero, elemsC, Int.reduceToNat, Nat.reducePow, mk_bs, bs_size, bs_list, htd, Bool.not_true, isCst, e1, e2, e3]) | (simp (disch := (first | omega | (simp only [AL, List.length_map]; omega))) only [AR, AL, ifT, ifF, take_all, List.length_cons, List.length_nil, Int.reduceToNat, Int.reducePow, Nat.reducePow, mk_bs, bs_size, bs_list, htd, Bool.not_true, isCst, e1, e2, e3]) | (refine wk_intro (by kernel_rfl) ?_) | (refine vf_of (by first | exact htl | exact ht | exact ha) ?_))
    · rw [if_neg hn30, Option.isSome_none]
      have e3 : decide ((n : Int) ≤ 30) = false := decide_eq_false (by omega)
      refine Go.Ev.Fn.intro (fn := Tryz.f56) (body := (Tryz.f56).body.get!) (by kernel_rfl) (by kernel_rfl) (by kernel_rfl) (fun _ => rfl) (Nat.le_of_ble_eq_true (by kernel_rfl)) ?_; unfold Tryz.f56; simp only [Option.get!_some]
      repeat (first | (simp only [go_sem, Nat.reduceEqDiff, Nat.reduceAdd, Nat.reduceSub, Nat.reduceMul, Nat.reduceLeDiff, Nat.reduceLT, reduceIte, reduceCtorEq, Nat.succ_ne_zero, elemsC, Int.reduceToNat, Nat.reducePow, mk_bs, bs_size, bs_list, htd, Bool.not_true, isCst, e1, e2, e3]) | (simp (disch := (first | omega | (simp only [AL, List.length_map]; omega))) only [AR, AL, ifT, ifF, take_all, List.length_cons, List.length_nil, Int.reduceToNat, Int.reducePow, Nat.reducePow, mk_bs, bs_size, bs_list, htd, Bool.not_true, isCst, e1, e2, e3]) | (refine wk_intro (by kernel_rfl) ?_) | (refine vf_of (by first | exact htl | exact ht | exact ha) ?_))
theorem sz_ten (k : Nat) (h : k ≤ 60) : szR ((10 : Rat) ^ k) 61 := by
  have e : ((10 : Rat) ^ k) = ((10 ^ k : Nat) : Rat) := by simp
  rw [e]
  refine ⟨?_, ?_⟩
  · have := pow_lim (k := k)
    simpa using Nat.le_trans this (by omega)
  · simp
    decide
theorem data_ten (n : Nat) (hn : n ≤ 60) : Go.Ev.Fn CX 59 [.int .i64 (n : Int)] (rv ((10 : Rat) ^ n)) := by
  have o1 := rat_Int 1 (by omega)
  have o10 := rat_Int 10 (by omega)
  have z10 : szR ((10 : Int) : Rat) 1 := ⟨by decide, by decide⟩
  refine Go.Ev.Fn.intro (fn := Tryz.f59) (body := (Tryz.f59).body.get!) (by kernel_rfl) (by kernel_rfl) (by kernel_rfl) (fun _ => rfl) (Nat.le_of_ble_eq_true (by kernel_rfl)) ?_; unfold Tryz.f59; simp only [Option.get!_some]
  repeat (first | (simp only [go_sem, Nat.reduceEqDiff, Nat.reduceAdd, Nat.reduceSub, Nat.reduceMul, Nat.reduceLeDiff, Nat.reduceLT, reduceIte, reduceCtorEq, Nat.succ_ne_zero, elemsC, Int.reduceToNat, Nat.reducePow, rv, ratV]) | (simp (disch := (first | omega | (simp only [AL, List.length_map]; omega))) only [AR, AL, ifT, ifF, take_all, List.length_cons, List.length_nil, Int.reduceToNat, Int.reducePow, Nat.reducePow, rv, ratV]) | (refine wk_intro (by kernel_rfl) ?_) | (refine vp_draw (id := 4) (l := []) (by kernel_rfl) ?_) | (refine vf_of (by first | exact o1) ?_))
  refine vp_loop_inv (fun s => s.tmp 2 = .ptr 2 0 0 ∧ s.obj 2 0 = some [.bool false, .sl 0 [], .sl 0 []] ∧ s.tmp 3 = .ptr 3 0 0 ∧ s.tmp 5 = .sv (.int .i64 (n : Int)) ∧
      ∃ i : Nat, s.tmp 6 = .sv (.int .i64 (i : Int)) ∧ i ≤ n ∧ s.obj 3 0 = some (rvC ((10 : Rat) ^ i)))
    (fun s => match s.tmp 6 with | .sv (.int _ i) => n - i.toNat | _ => 0) ?_ ?_
  · have e0 : rvC ((10 : Rat) ^ 0) = [.bool false, natV (lim 1), natV (lim 1)] := by simp [rvC]
    exact ⟨rfl, rfl, rfl, rfl, 0, rfl, by omega, by rw [e0]; rfl⟩
  rintro s2 ⟨i2, o2, i3, i5, i, i6, hi, o3⟩
  by_cases hend : i = n
  · subst hend
    generalize (10 : Rat) ^ i = q at *
    repeat (first | (simp only [go_sem, Nat.reduceEqDiff, Nat.reduceAdd, Nat.reduceSub, Nat.reduceMul, Nat.reduceLeDiff, Nat.reduceLT, reduceIte, reduceCtorEq, Nat.succ_ne_zero, elemsC, Int.reduceToNat, Nat.reducePow, i2, o2, i3, i5, i6, o3, rvC]) | (simp (disch := (first | omega | (simp only [AL, List.length_map]; omega))) only [AR, AL, ifT, ifF, take_all, List.length_cons, List.length_nil, Int.reduceToNat, Int.reducePow, Nat.reducePow, i2, o2, i3, i5, i6, o3, rvC]) | (refine wk_intro (by kernel_rfl) ?_) | (refine vp_draw (id := 4) (l := []) (by kernel_rfl) ?_))
    first | rfl | skip
  · have z := sz_ten i (by omega)
    have m := rat_Mul (RatA_rv z) (RatA_rv z10) (by omega) (by omega) (by omega)
    rw [show (10 : Rat) ^ i * ((10 : Int) : Rat) = (10 : Rat) ^ (i + 1) by rw [Rat.pow_succ]; rfl] at m
    generalize hp : (10 : Rat) ^ i = q at *
    generalize hp2 : (10 : Rat) ^ (i + 1) = q2 at *
    unfold rvC at o3
    unfold rv ratV at m o10
    repeat (first | (simp only [go_sem, Nat.reduceEqDiff, Nat.reduceAdd, Nat.reduceSub, Nat.reduceMul, Nat.reduceLeDiff, Nat.reduceLT, reduceIte, reduceCtorEq, Nat.succ_ne_zero, elemsC, Int.reduceToNat, Nat.reducePow, i2, o2, i3, i5, i6, o3]) | (simp (disch := (first | omega | (simp only [AL, List.length_map]; omega))) only [AR, AL, ifT, ifF, take_all, List.length_cons, List.length_nil, Int.reduceToNat, Int.reducePow, Nat.reducePow, i2, o2, i3, i5, i6, o3]) | (refine wk_intro (by kernel_rfl) ?_) | (refine vp_draw (id := 4) (l := []) (by kernel_rfl) ?_) | (refine vf_of (by first | exact o10 | exact m) ?_))
    exact ⟨⟨i + 1, rfl, by omega, by rw [hp2]; rfl⟩, by omega⟩
def ratS (v : SV) : Prop := ∃ s n1 c1 n2 c2, v = .agg [.bool s, .sl n1 c1, .sl n2 c2]
theorem ratS_rv (q : Rat) : ratS (rv q) := ⟨_, _, _, _, _, rfl⟩
theorem szR_decP {l : List UInt8} {q : Rat} (h : decP l = some q) (hl : l.length ≤ 400) : szR q 401 := by
  have key : ∀ (s : Bool) (n d : Nat), (lim n).length ≤ 400 → (lim d).length ≤ 401 → szR (mkRat (sgn s n) d) 401 := fun s n d h1 h2 => szR_of (v := ratV s (lim n) (lim d)) ⟨s, lim n, lim d, rfl, okL_lim _, okL_lim _, by omega, h2, by rw [wth_lim, wth_lim]⟩ (by omega)
  have ha : (absP l).length ≤ 400 := by
    unfold absP
    split
    · rw [List.length_tail]; omega
    · exact hl
  unfold decP at h
  split at h
  · split at h
    · cases h
    · split at h
      · rename_i n m h1 h2
        cases h
        have := back_len (c := 46) (l := absP l)
        have h3 := pow_lim (k := (backL 46 (absP l)).length)
        exact key _ _ _ (parse_len h2) (by omega)
      · cases h
  · split at h
    · rename_i n d h1 h2
      split at h
      · cases h
      · cases h
        exact key _ _ _ (parse_len h1) (by have := parse_len h2; omega)
    · cases h
theorem str_Contains (l : List UInt8) (c : UInt8) : Go.Ev.Fn CX 57 [.str (bs l), .str (bs [c])] (.bool (l.contains c)) := by
  have hx := str_Index CX_str l c
  refine Go.Ev.Fn.intro (fn := Tryz.f57) (body := (Tryz.f57).body.get!) (by kernel_rfl) (by kernel_rfl) (by kernel_rfl) (fun _ => rfl) (Nat.le_of_ble_eq_true (by kernel_rfl)) ?_; unfold Tryz.f57; simp only [Option.get!_some]
  rcases index_cases c l with ⟨h1, h2, _⟩ | ⟨i, h1, h2, _⟩
  · rw [h2] at hx
    rw [h1]
    repeat (first | (simp only [go_sem, Nat.reduceEqDiff, Nat.reduceAdd, Nat.reduceSub, Nat.reduceMul, Nat.reduceLeDiff, Nat.reduceLT, reduceIte, reduceCtorEq, Nat.succ_ne_zero, elemsC, Int.reduceToNat, Nat.reducePow]) | (simp (disch := (first | omega | (simp only [AL, List.length_map]; omega))) only [AR, AL, ifT, ifF, take_all, List.length_cons, List.length_nil, Int.reduceToNat, Int.reducePow, Nat.reducePow]) | (refine wk_intro (by kernel_rfl) ?_) | (refine vf_of (by first | exact hx) ?_))
    first | rfl | skip
  · rw [h2] at hx
    rw [h1]
    repeat (first | (simp only [go_sem, Nat.reduceEqDiff, Nat.reduceAdd, Nat.reduceSub, Nat.reduceMul, Nat.reduceLeDiff, Nat.reduceLT, reduceIte, reduceCtorEq, Nat.succ_ne_zero, elemsC, Int.reduceToNat, Nat.reducePow]) | (simp (disch := (first | omega | (simp only [AL, List.length_map]; omega))) only [AR, AL, ifT, ifF, take_all, List.length_cons, List.length_nil, Int.reduceToNat, Int.reducePow, Nat.reducePow]) | (refine wk_intro (by kernel_rfl) ?_) | (refine vf_of (by first | exact hx) ?_))
    first | rfl | skip
set_option maxHeartbeats 2000000 in
theorem data_Number (l : List UInt8) (hl : l.length ≤ 1048576) : ∃ v, ratS v ∧ Go.Ev.Fn CX 21 [.str (bs l)] (.tup [v, .int .i64 ((numP l).1 : Int)]) ∧ ((numP l).1 = 0 → v = rv (numP l).2 ∧ szR (numP l).2 500) := by
  have o0 := rat_Int 0 (by omega)
  have s0 : ∀ e : Nat, e ≠ 0 → (e = 0 → rv ((0 : Int) : Rat) = rv (0 : Rat) ∧ szR 0 500) := fun e h1 h2 => absurd h2 h1
  by_cases h60 : 60 < l.length
  · have e : numP l = (3, 0) := by unfold numP; rw [if_pos h60]
    rw [e]
    refine ⟨_, ratS_rv ((0 : Int) : Rat), ?_, fun h => by cases h⟩
    unfold rv ratV at o0
    refine Go.Ev.Fn.intro (fn := Tryz.f21) (body := (Tryz.f21).body.get!) (by kernel_rfl) (by kernel_rfl) (by kernel_rfl) (fun _ => rfl) (Nat.le_of_ble_eq_true (by kernel_rfl)) ?_; unfold Tryz.f21; simp only [Option.get!_some]
    repeat (first | (simp only [go_sem, Nat.reduceEqDiff, Nat.reduceAdd, Nat.reduceSub, Nat.reduceMul, Nat.reduceLeDiff, Nat.reduceLT, reduceIte, reduceCtorEq, Nat.succ_ne_zero, elemsC, Int.reduceToNat, Nat.reducePow, bs_size, rv, ratV]) | (simp (disch := (first | omega | (simp only [AL, List.length_map]; omega))) only [AR, AL, ifT, ifF, take_all, List.length_cons, List.length_nil, Int.reduceToNat, Int.reducePow, Nat.reducePow, bs_size, rv, ratV]) | (refine wk_intro (by kernel_rfl) ?_) | (refine vp_draw (id := 11) (l := []) (by kernel_rfl) ?_) | (refine vp_draw (id := 13) (l := []) (by kernel_rfl) ?_) | (refine vf_of (by first | exact o0) ?_))
    first | rfl | skip
  have c101 := str_Cut CX_str l 101 (by omega)
  have c47 := str_Contains l 47
  have f1 := front_len (c := 101) (l := l)
  have b1 := back_len (c := 101) (l := l)
  have hp := dec_Parse (frontL 101 l) (by omega)
  cases h101 : l.contains 101 with
  | false =>
    have hfr : frontL 101 l = l := by
      rcases index_cases 101 l with ⟨_, _, h, _⟩ | ⟨_, h, _⟩
      · exact h
      · rw [h101] at h; cases h
    rw [h101] at c101
    rw [hfr] at c101 hp
    cases hd : decP l with
    | some q =>
      have e : numP l = (0, q) := by unfold numP; rw [if_neg h60, h101, hd]; rfl
      have e2 : decPV l = .tup [rv q, .int .i64 0] := by unfold decPV; rw [hd]
      rw [e]
      rw [e2] at hp
      refine ⟨_, ratS_rv q, ?_, fun _ => ⟨rfl, ?_⟩⟩
      · unfold rv ratV at hp ⊢
        refine Go.Ev.Fn.intro (fn := Tryz.f21) (body := (Tryz.f21).body.get!) (by kernel_rfl) (by kernel_rfl) (by kernel_rfl) (fun _ => rfl) (Nat.le_of_ble_eq_true (by kernel_rfl)) ?_; unfold Tryz.f21; simp only [Option.get!_some]
        repeat (first | (simp only [go_sem, Nat.reduceEqDiff, Nat.reduceAdd, Nat.reduceSub, Nat.reduceMul, Nat.reduceLeDiff, Nat.reduceLT, reduceIte, reduceCtorEq, Nat.succ_ne_zero, elemsC, Int.reduceToNat, Nat.reducePow, bs_size, mk_bs, Bool.not_false]) | (simp (disch := (first | omega | (simp only [AL, List.length_map]; omega))) only [AR, AL, ifT, ifF, take_all, List.length_cons, List.length_nil, Int.reduceToNat, Int.reducePow, Nat.reducePow, bs_size, mk_bs, Bool.not_false]) | (refine wk_intro (by kernel_rfl) ?_) | (refine vp_draw (id := 11) (l := []) (by kernel_rfl) ?_) | (refine vp_draw (id := 13) (l := []) (by kernel_rfl) ?_) | (refine vf_of (by first | exact c101 | exact hp) ?_))
        first | rfl | skip
      · have := szR_decP hd (by omega)
        exact ⟨by have := this.1; simp only; omega, by have := this.2; simp only; omega⟩
    | none =>
      have e : numP l = (2, 0) := by unfold numP; rw [if_neg h60, h101, hd]; rfl
      have e2 : decPV l = .tup [noR, .int .i64 2] := by unfold decPV; rw [hd]
      rw [e]
      rw [e2] at hp
      unfold noR at hp
      refine ⟨noR, ⟨_, _, _, _, _, rfl⟩, ?_, fun h => by cases h⟩
      unfold noR
      refine Go.Ev.Fn.intro (fn := Tryz.f21) (body := (Tryz.f21).body.get!) (by kernel_rfl) (by kernel_rfl) (by kernel_rfl) (fun _ => rfl) (Nat.le_of_ble_eq_true (by kernel_rfl)) ?_; unfold Tryz.f21; simp only [Option.get!_some]
      repeat (first | (simp only [go_sem, Nat.reduceEqDiff, Nat.reduceAdd, Nat.reduceSub, Nat.reduceMul, Nat.reduceLeDiff, Nat.reduceLT, reduceIte, reduceCtorEq, Nat.succ_ne_zero, elemsC, Int.reduceToNat, Nat.reducePow, bs_size, mk_bs, Bool.not_false]) | (simp (disch := (first | omega | (simp only [AL, List.length_map]; omega))) only [AR, AL, ifT, ifF, take_all, List.length_cons, List.length_nil, Int.reduceToNat, Int.reducePow, Nat.reducePow, bs_size, mk_bs, Bool.not_false]) | (refine wk_intro (by kernel_rfl) ?_) | (refine vp_draw (id := 11) (l := []) (by kernel_rfl) ?_) | (refine vp_draw (id := 13) (l := []) (by kernel_rfl) ?_) | (refine vf_of (by first | exact c101 | exact hp) ?_))
      first | rfl | skip
  | true =>
    rw [h101] at c101
    obtain ⟨k, hk, hkv⟩ := data_exponent (backL 101 l) (by omega)
    cases hd : decP (frontL 101 l) with
    | none =>
      have e : numP l = (2, 0) := by unfold numP; rw [if_neg h60, h101, hd]; rfl
      have e2 : decPV (frontL 101 l) = .tup [noR, .int .i64 2] := by unfold decPV; rw [hd]
      rw [e]
      rw [e2] at hp
      unfold noR at hp
      refine ⟨_, ratS_rv ((0 : Int) : Rat), ?_, fun h => by cases h⟩
      unfold rv ratV at o0
      generalize (expP (backL 101 l)).isSome = bb at *
      refine Go.Ev.Fn.intro (fn := Tryz.f21) (body := (Tryz.f21).body.get!) (by kernel_rfl) (by kernel_rfl) (by kernel_rfl) (fun _ => rfl) (Nat.le_of_ble_eq_true (by kernel_rfl)) ?_; unfold Tryz.f21; simp only [Option.get!_some]
      repeat (first | (simp only [go_sem, Nat.reduceEqDiff, Nat.reduceAdd, Nat.reduceSub, Nat.reduceMul, Nat.reduceLeDiff, Nat.reduceLT, reduceIte, reduceCtorEq, Nat.succ_ne_zero, elemsC, Int.reduceToNat, Nat.reducePow, bs_size, mk_bs, Bool.not_true, rv, ratV]) | (simp (disch := (first | omega | (simp only [AL, List.length_map]; omega))) only [AR, AL, ifT, ifF, take_all, List.length_cons, List.length_nil, Int.reduceToNat, Int.reducePow, Nat.reducePow, bs_size, mk_bs, Bool.not_true, rv, ratV]) | (refine wk_intro (by kernel_rfl) ?_) | (refine vp_draw (id := 11) (l := []) (by kernel_rfl) ?_) | (refine vp_draw (id := 13) (l := []) (by kernel_rfl) ?_) | (refine vf_of (by first | exact c101 | exact hp | exact hk | exact o0) ?_))
      first | rfl | skip
    | some q =>
      have e2 : decPV (frontL 101 l) = .tup [rv q, .int .i64 0] := by unfold decPV; rw [hd]
      rw [e2] at hp
      have zq := szR_decP hd (by omega)
      cases hx : expP (backL 101 l) with
      | none =>
        have e : numP l = (2, 0) := by unfold numP; rw [if_neg h60, h101, hd, hx]; rfl
        rw [e]
        rw [hx, Option.isSome_none] at hk
        refine ⟨_, ratS_rv ((0 : Int) : Rat), ?_, fun h => by cases h⟩
        unfold rv ratV at o0 hp
        refine Go.Ev.Fn.intro (fn := Tryz.f21) (body := (Tryz.f21).body.get!) (by kernel_rfl) (by kernel_rfl) (by kernel_rfl) (fun _ => rfl) (Nat.le_of_ble_eq_true (by kernel_rfl)) ?_; unfold Tryz.f21; simp only [Option.get!_some]
        repeat (first | (simp only [go_sem, Nat.reduceEqDiff, Nat.reduceAdd, Nat.reduceSub, Nat.reduceMul, Nat.reduceLeDiff, Nat.reduceLT, reduceIte, reduceCtorEq, Nat.succ_ne_zero, elemsC, Int.reduceToNat, Nat.reducePow, bs_size, mk_bs, Bool.not_true, Bool.not_false, rv, ratV]) | (simp (disch := (first | omega | (simp only [AL, List.length_map]; omega))) only [AR, AL, ifT, ifF, take_all, List.length_cons, List.length_nil, Int.reduceToNat, Int.reducePow, Nat.reducePow, bs_size, mk_bs, Bool.not_true, Bool.not_false, rv, ratV]) | (refine wk_intro (by kernel_rfl) ?_) | (refine vp_draw (id := 11) (l := []) (by kernel_rfl) ?_) | (refine vp_draw (id := 13) (l := []) (by kernel_rfl) ?_) | (refine vf_of (by first | exact c101 | exact hp | exact hk | exact o0) ?_))
        first | rfl | skip
      | some v =>
        obtain ⟨rfl, hk1, hk2⟩ := hkv v hx
        rw [hx, Option.isSome_some] at hk
        cases h47 : l.contains 47 with
        | true =>
          have e : numP l = (2, 0) := by unfold numP; rw [if_neg h60, h101, hd, hx, h47]; rfl
          rw [e]
          rw [h47] at c47
          refine ⟨_, ratS_rv ((0 : Int) : Rat), ?_, fun h => by cases h⟩
          unfold rv ratV at o0 hp
          refine Go.Ev.Fn.intro (fn := Tryz.f21) (body := (Tryz.f21).body.get!) (by kernel_rfl) (by kernel_rfl) (by kernel_rfl) (fun _ => rfl) (Nat.le_of_ble_eq_true (by kernel_rfl)) ?_; unfold Tryz.f21; simp only [Option.get!_some]
          repeat (first | (simp only [go_sem, Nat.reduceEqDiff, Nat.reduceAdd, Nat.reduceSub, Nat.reduceMul, Nat.reduceLeDiff, Nat.reduceLT, reduceIte, reduceCtorEq, Nat.succ_ne_zero, elemsC, Int.reduceToNat, Nat.reducePow, bs_size, mk_bs, Bool.not_true, rv, ratV]) | (simp (disch := (first | omega | (simp only [AL, List.length_map]; omega))) only [AR, AL, ifT, ifF, take_all, List.length_cons, List.length_nil, Int.reduceToNat, Int.reducePow, Nat.reducePow, bs_size, mk_bs, Bool.not_true, rv, ratV]) | (refine wk_intro (by kernel_rfl) ?_) | (refine vp_draw (id := 11) (l := []) (by kernel_rfl) ?_) | (refine vp_draw (id := 13) (l := []) (by kernel_rfl) ?_) | (refine vf_of (by first | exact c101 | exact hp | exact hk | exact c47 | exact o0) ?_))
          first | rfl | skip
        | false =>
          have e : numP l = (0, q * tenR v) := by unfold numP; rw [if_neg h60, h101, hd, hx, h47]; rfl
          rw [e]
          rw [h47] at c47
          have ht := data_ten v.natAbs (by omega)
          have zt := sz_ten v.natAbs (by omega)
          by_cases hneg : v < 0
          · have e5 : tenR v = 1 / (10 : Rat) ^ v.natAbs := by unfold tenR; rw [if_pos hneg]
            have hm := rat_Div (RatA_rv zq) (RatA_rv zt) (by omega) (by omega) (by omega)
            have e6 : q / (10 : Rat) ^ v.natAbs = q * tenR v := by rw [e5, Rat.div_def, Rat.div_def, Rat.one_mul]
            have zd := szR_div zq zt (by omega) (by omega)
            rw [e6] at hm zd
            refine ⟨_, ratS_rv (q * tenR v), ?_, fun _ => ⟨rfl, ⟨by have := zd.1; simp only; omega, by have := zd.2; simp only; omega⟩⟩⟩
            have e7 : (v.natAbs : Int) = 0 - v := by omega
            rw [e7] at ht
            generalize (10 : Rat) ^ v.natAbs = t at *
            generalize q * tenR v = r at *
            unfold rv ratV at o0 hp hm ⊢
            refine Go.Ev.Fn.intro (fn := Tryz.f21) (body := (Tryz.f21).body.get!) (by kernel_rfl) (by kernel_rfl) (by kernel_rfl) (fun _ => rfl) (Nat.le_of_ble_eq_true (by kernel_rfl)) ?_; unfold Tryz.f21; simp only [Option.get!_some]
            repeat (first | (simp only [go_sem, Nat.reduceEqDiff, Nat.reduceAdd, Nat.reduceSub, Nat.reduceMul, Nat.reduceLeDiff, Nat.reduceLT, reduceIte, reduceCtorEq, Nat.succ_ne_zero, elemsC, Int.reduceToNat, Nat.reducePow, bs_size, mk_bs, Bool.not_true]) | (simp (disch := (first | omega | (simp only [AL, List.length_map]; omega))) only [AR, AL, ifT, ifF, take_all, List.length_cons, List.length_nil, Int.reduceToNat, Int.reducePow, Nat.reducePow, bs_size, mk_bs, Bool.not_true]) | (refine wk_intro (by kernel_rfl) ?_) | (refine vp_draw (id := 11) (l := []) (by kernel_rfl) ?_) | (refine vp_draw (id := 13) (l := []) (by kernel_rfl) ?_) | (refine vf_of (by first | exact c101 | exact hp | exact hk | exact c47) ?_))
            repeat (first | (simp only [go_sem, Nat.reduceEqDiff, Nat.reduceAdd, Nat.reduceSub, Nat.reduceMul, Nat.reduceLeDiff, Nat.reduceLT, reduceIte, reduceCtorEq, Nat.succ_ne_zero, elemsC, Int.reduceToNat, Nat.reducePow, rv, ratV]) | (simp (disch := (first | omega | (simp only [AL, List.length_map]; omega))) only [AR, AL, ifT, ifF, take_all, List.length_cons, List.length_nil, Int.reduceToNat, Int.reducePow, Nat.reducePow, rv, ratV]) | (refine wk_intro (by kernel_rfl) ?_) | (refine vp_draw (id := 11) (l := []) (by kernel_rfl) ?_) | (refine vp_draw (id := 13) (l := []) (by kernel_rfl) ?_) | (refine vf_of (by first | exact ht | exact hm) ?_))
            first | rfl | skip
          · have e5 : tenR v = (10 : Rat) ^ v.natAbs := by unfold tenR; rw [if_neg hneg]
            have hm := rat_Mul (RatA_rv zq) (RatA_rv zt) (by omega) (by omega) (by omega)
            have zd := szR_mul zq zt (by omega)
            rw [e5]
            refine ⟨_, ratS_rv (q * (10 : Rat) ^ v.natAbs), ?_, fun _ => ⟨rfl, ⟨by have := zd.1; simp only; omega, by have := zd.2; simp only; omega⟩⟩⟩
            have e7 : v = (v.natAbs : Int) := by omega
            generalize (10 : Rat) ^ v.natAbs = t at *
            generalize q * t = r at *
            generalize hm' : v.natAbs = m at *
            subst e7
            unfold rv ratV at o0 hp hm ⊢
            refine Go.Ev.Fn.intro (fn := Tryz.f21) (body := (Tryz.f21).body.get!) (by kernel_rfl) (by kernel_rfl) (by kernel_rfl) (fun _ => rfl) (Nat.le_of_ble_eq_true (by kernel_rfl)) ?_; unfold Tryz.f21; simp only [Option.get!_some]
            repeat (first | (simp only [go_sem, Nat.reduceEqDiff, Nat.reduceAdd, Nat.reduceSub, Nat.reduceMul, Nat.reduceLeDiff, Nat.reduceLT, reduceIte, reduceCtorEq, Nat.succ_ne_zero, elemsC, Int.reduceToNat, Nat.reducePow, bs_size, mk_bs, Bool.not_true]) | (simp (disch := (first | omega | (simp only [AL, List.length_map]; omega))) only [AR, AL, ifT, ifF, take_all, List.length_cons, List.length_nil, Int.reduceToNat, Int.reducePow, Nat.reducePow, bs_size, mk_bs, Bool.not_true]) | (refine wk_intro (by kernel_rfl) ?_) | (refine vp_draw (id := 11) (l := []) (by kernel_rfl) ?_) | (refine vp_draw (id := 13) (l := []) (by kernel_rfl) ?_) | (refine vf_of (by first | exact c101 | exact hp | exact hk | exact c47) ?_))
            repeat (first | (simp only [go_sem, Nat.reduceEqDiff, Nat.reduceAdd, Nat.reduceSub, Nat.reduceMul, Nat.reduceLeDiff, Nat.reduceLT, reduceIte, reduceCtorEq, Nat.succ_ne_zero, elemsC, Int.reduceToNat, Nat.reducePow, rv, ratV]) | (simp (disch := (first | omega | (simp only [AL, List.length_map]; omega))) only [AR, AL, ifT, ifF, take_all, List.length_cons, List.length_nil, Int.reduceToNat, Int.reducePow, Nat.reducePow, rv, ratV]) | (refine wk_intro (by kernel_rfl) ?_) | (refine vp_draw (id := 11) (l := []) (by kernel_rfl) ?_) | (refine vp_draw (id := 13) (l := []) (by kernel_rfl) ?_) | (refine vf_of (by first | exact ht | exact hm) ?_))
            first | rfl | skip
end Go.Proofs.YtkkmnjhecjkhgaaGreatDoor
namespace Go.Proofs.YtkkmnjhecjkhgaaGreatDoor
open Go.Ev
def ngB (b : UInt8) : Bool := !gapB b
theorem toks_skip (r : List UInt8) : toks [] r = toks [] (r.dropWhile gapB) := by
  induction r with
  | nil => rfl
  | cons b r ih =>
    rw [List.dropWhile_cons]
    cases h : gapB b with
    | true =>
      rw [toks, h]
      simpa using ih
    | false => rfl
theorem toks_cut {b : UInt8} {r : List UInt8} (hb : gapB b = false) : toks [] (b :: r) = (b :: r).takeWhile ngB :: toks [] ((b :: r).dropWhile ngB) := by
  have key : ∀ (r cur : List UInt8), cur ≠ [] → toks cur r = (cur.reverse ++ r.takeWhile ngB) :: toks [] (r.dropWhile ngB) := by
    intro r
    induction r with
    | nil => intro cur hc; simp [toks, hc]
    | cons x r ih =>
      intro cur hc
      rw [toks, List.takeWhile_cons, List.dropWhile_cons]
      unfold ngB
      cases hx : gapB x with
      | true =>
        simp only [if_true, Bool.not_true, Bool.false_eq_true, if_false, List.append_nil]
        rw [if_neg hc, toks, hx]
        simp
      | false =>
        simp only [Bool.false_eq_true, if_false, Bool.not_false, if_true]
        rw [ih (x :: cur) (by simp)]
        unfold ngB
        simp
  rw [toks, hb]
  simp only [Bool.false_eq_true, if_false]
  rw [key r [b] (by simp), List.takeWhile_cons, List.dropWhile_cons]
  unfold ngB
  simp [hb]
def runA (qs : List Rat) (ts : List (List UInt8)) : Nat × List Rat := match runP ts with
  | (0, l) => (0, qs ++ l)
  | (e, _) => (e, [])
theorem runA_nil (qs : List Rat) : runA qs [] = (0, qs) := by simp [runA, runP]
theorem runA_cons_ok {qs : List Rat} {t : List UInt8} {r : List (List UInt8)} (h : (numP t).1 = 0) : runA qs (t :: r) = runA (qs ++ [(numP t).2]) r := by
  unfold runA
  rw [runP]
  cases hq : numP t with
  | mk e q =>
    rw [hq] at h
    cases h
    dsimp only
    cases runP r with
    | mk e2 l =>
      cases e2 with
      | zero => simp
      | succ n => rfl
theorem runA_cons_bad {qs : List Rat} {t : List UInt8} {r : List (List UInt8)} (h : (numP t).1 ≠ 0) : runA qs (t :: r) = ((numP t).1, []) := by
  unfold runA
  rw [runP]
  cases hq : numP t with
  | mk e q =>
    rw [hq] at h
    cases e with
    | zero => exact absurd rfl h
    | succ n => rfl
def finP (r : Nat × List Rat) : Nat × List Rat := match r with
  | (0, x) => if 256 < x.length then (3, []) else (0, x)
  | (e, _) => (e, [])
theorem parse_runA (l : List UInt8) : parseP l = finP (runA [] (toks [] (plainL false l))) := by
  unfold parseP runA finP
  cases runP (toks [] (plainL false l)) with
  | mk e x => cases e <;> rfl
theorem gap_index (b : UInt8) : ∃ z : Int, Lib.indexByte [32, 44, 10] b = z ∧ -1 ≤ z ∧ z < 3 ∧ (gapB b = true → 0 ≤ z) ∧ (gapB b = false → z < 0) := by
  refine ⟨_, rfl, ?_⟩
  have key : ∀ n : Nat, n < 256 → (-1 ≤ Lib.indexByte [32, 44, 10] (UInt8.ofNat n) ∧ Lib.indexByte [32, 44, 10] (UInt8.ofNat n) < 3 ∧ (gapB (UInt8.ofNat n) = true → 0 ≤ Lib.indexByte [32, 44, 10] (UInt8.ofNat n)) ∧ (gapB (UInt8.ofNat n) = false → Lib.indexByte [32, 44, 10] (UInt8.ofNat n) < 0)) := by decide
  have := key b.toNat b.toNat_lt
  rwa [UInt8.ofNat_toNat] at this
theorem str_IndexByte (s : List UInt8) (b : UInt8) : Go.Ev.Fn CX 49 [.str (bs s), .int .u8 (b.toNat : Int)] (.int .i64 (Lib.indexByte s b)) := by
  have h := lite_IndexByte CX_str (bs s) b
  rw [bs_toList] at h
  refine Go.Ev.Fn.intro (fn := Tryz.f49) (body := (Tryz.f49).body.get!) (by kernel_rfl) (by kernel_rfl) (by kernel_rfl) (fun _ => rfl) (Nat.le_of_ble_eq_true (by kernel_rfl)) ?_; unfold Tryz.f49; simp only [Option.get!_some]
  simp only [go_sem, Nat.reduceEqDiff, Nat.reduceAdd, Nat.reduceSub, Nat.reduceMul, Nat.reduceLeDiff, Nat.reduceLT, reduceIte, reduceCtorEq, Nat.succ_ne_zero, elemsC, Int.reduceToNat, Nat.reducePow]
  refine vf_of (h) ?_; simp only [go_sem, Nat.reduceEqDiff, Nat.reduceAdd, Nat.reduceSub, Nat.reduceMul, Nat.reduceLeDiff, Nat.reduceLT, reduceIte, reduceCtorEq, Nat.succ_ne_zero, elemsC, Int.reduceToNat, Nat.reducePow]
theorem rvsC_app (l : List Rat) (q : Rat) : rvsC (l ++ [q]) = rvsC l ++ rvC q := by unfold rvsC; simp
set_option maxHeartbeats 4000000 in
theorem data_Parse (l : List UInt8) (hl : l.length ≤ 100000) : Go.Ev.Fn CX 15 [.str (bs l)] (.tup [.sl (parseP l).2.length (rvsC (parseP l).2), .int .i64 ((parseP l).1 : Int)]) := by
  have hp := data_plain l (by omega)
  have hPl := plain_len l false
  rw [parse_runA]
  generalize plainL false l = P at *
  generalize hres : runA [] (toks [] P) = res at *
  refine Go.Ev.Fn.intro (fn := Tryz.f15) (body := (Tryz.f15).body.get!) (by kernel_rfl) (by kernel_rfl) (by kernel_rfl) (fun _ => rfl) (Nat.le_of_ble_eq_true (by kernel_rfl)) ?_; unfold Tryz.f15; simp only [Option.get!_some]
  repeat (first | (simp only [go_sem, Nat.reduceEqDiff, Nat.reduceAdd, Nat.reduceSub, Nat.reduceMul, Nat.reduceLeDiff, Nat.reduceLT, reduceIte, reduceCtorEq, Nat.succ_ne_zero, elemsC, Int.reduceToNat, Nat.reducePow, mk_bs]) | (simp (disch := (first | omega | (simp only [AL, List.length_map]; omega))) only [AR, AL, ifT, ifF, take_all, List.length_cons, List.length_nil, Int.reduceToNat, Int.reducePow, Nat.reducePow, mk_bs]) | (refine wk_intro (by kernel_rfl) ?_) | (refine vf_of (by first | exact hp) ?_))
  refine vp_ind (fun s => s.tmp 0 = .sv (.str (bs P)) ∧ ∃ (i : Nat) (qs : List Rat), s.tmp 5 = .sv (.int .i64 (i : Int)) ∧ i ≤ P.length ∧ qs.length ≤ i ∧ runA qs (toks [] (P.drop i)) = res ∧
      ((qs = [] ∧ s.tmp 4 = .nil ∧ s.gen 56 = 0) ∨ (qs ≠ [] ∧ s.tmp 4 = .ref 56 0 3 0 qs.length ∧ s.obj 56 0 = some (rvsC qs))))
    (fun s => match s.tmp 5 with | .sv (.int _ i) => P.length - i.toNat | _ => 0) ?_ ?_
  · exact ⟨rfl, 0, [], rfl, by omega, by simp, hres, .inl ⟨rfl, rfl, rfl⟩⟩
  rintro s2 ⟨i0, i, qs, i5, hi, hq, hr, hc⟩ ih
  have hμ : (match s2.tmp 5 with | .sv (.int _ i) => P.length - i.toNat | _ => 0) = P.length - i := by rw [i5]; simp
  rw [hμ] at ih
  refine vp_loop_inv (fun s => s.tmp 0 = .sv (.str (bs P)) ∧ s.tmp 4 = s2.tmp 4 ∧ s.gen 56 = s2.gen 56 ∧ s.obj 56 0 = s2.obj 56 0 ∧
      ∃ j : Nat, s.tmp 5 = .sv (.int .i64 (j : Int)) ∧ i ≤ j ∧ j ≤ P.length ∧ (P.drop j).dropWhile gapB = (P.drop i).dropWhile gapB)
    (fun s => match s.tmp 5 with | .sv (.int _ j) => P.length - j.toNat | _ => 0) ?_ ?_
  · exact ⟨i0, rfl, rfl, rfl, i, i5, by omega, hi, rfl⟩
  rintro s3 ⟨j0, j4, jg, jo, j, j5, hij, hj, hdw⟩
  by_cases hend : j = P.length
  · have hnil : (P.drop i).dropWhile gapB = [] := by rw [← hdw, hend, List.drop_length]; rfl
    rw [toks_skip, hnil, show toks [] ([] : List UInt8) = [] from rfl, runA_nil] at hr
    subst hend
    by_cases hbig : 256 < qs.length
    · have e : finP res = (3, []) := by rw [← hr]; unfold finP; simp only; rw [if_pos hbig]
      rw [e]
      rcases hc with ⟨rfl, _⟩ | ⟨_, i4, iO⟩
      · simp at hbig
      · rw [i4] at j4
        repeat (first | (simp only [go_sem, Nat.reduceEqDiff, Nat.reduceAdd, Nat.reduceSub, Nat.reduceMul, Nat.reduceLeDiff, Nat.reduceLT, reduceIte, reduceCtorEq, Nat.succ_ne_zero, elemsC, Int.reduceToNat, Nat.reducePow, j0, j4, j5, bs_size]) | (simp (disch := (first | omega | (simp only [AL, List.length_map]; omega))) only [AR, AL, ifT, ifF, take_all, List.length_cons, List.length_nil, Int.reduceToNat, Int.reducePow, Nat.reducePow, j0, j4, j5, bs_size]) | (refine wk_intro (by kernel_rfl) ?_))
        exact ⟨rfl, rfl⟩
    · have e : finP res = (0, qs) := by rw [← hr]; unfold finP; simp only; rw [if_neg hbig]
      rw [e]
      rcases hc with ⟨rfl, i4, _⟩ | ⟨_, i4, iO⟩
      · rw [i4] at j4
        repeat (first | (simp only [go_sem, Nat.reduceEqDiff, Nat.reduceAdd, Nat.reduceSub, Nat.reduceMul, Nat.reduceLeDiff, Nat.reduceLT, reduceIte, reduceCtorEq, Nat.succ_ne_zero, elemsC, Int.reduceToNat, Nat.reducePow, j0, j4, j5, bs_size]) | (simp (disch := (first | omega | (simp only [AL, List.length_map]; omega))) only [AR, AL, ifT, ifF, take_all, List.length_cons, List.length_nil, Int.reduceToNat, Int.reducePow, Nat.reducePow, j0, j4, j5, bs_size]) | (refine wk_intro (by kernel_rfl) ?_))
        exact ⟨rfl, rfl⟩
      · rw [i4] at j4
        rw [iO] at jo
        have hrl := rvsC_len qs
        have ht : (rvsC qs).take (qs.length * 3) = rvsC qs := List.take_of_length_le (by omega)
        repeat (first | (simp only [go_sem, Nat.reduceEqDiff, Nat.reduceAdd, Nat.reduceSub, Nat.reduceMul, Nat.reduceLeDiff, Nat.reduceLT, reduceIte, reduceCtorEq, Nat.succ_ne_zero, elemsC, Int.reduceToNat, Nat.reducePow, j0, j4, j5, bs_size]) | (simp (disch := (first | omega | (simp only [AL, List.length_map]; omega))) only [AR, AL, ifT, ifF, take_all, List.length_cons, List.length_nil, Int.reduceToNat, Int.reducePow, Nat.reducePow, j0, j4, j5, bs_size]) | (refine wk_intro (by kernel_rfl) ?_))
        refine ⟨ro_ref (cs := rvsC qs) (by decide) ?_ ?_, rfl⟩
        · simp only [go_sem, Nat.reduceEqDiff, Nat.reduceAdd, Nat.reduceSub, Nat.reduceMul, Nat.reduceLeDiff, Nat.reduceLT, reduceIte, reduceCtorEq, Nat.succ_ne_zero, elemsC, Int.reduceToNat, Nat.reducePow, jo]
        · rw [List.drop_zero, ht]
  · have hlt : j < P.length := by omega
    have hg : P[j]? = some P[j] := List.getElem?_eq_getElem hlt
    have hdr : P.drop j = P[j] :: P.drop (j + 1) := List.drop_eq_getElem_cons hlt
    obtain ⟨z, hz0, hz1, hz2, hz3, hz4⟩ := gap_index P[j]
    have hx := str_IndexByte [32, 44, 10] P[j]
    rw [hz0] at hx
    cases hgap : gapB P[j] with
    | true =>
      have hz5 := hz3 hgap
      have hdw2 : (P.drop (j + 1)).dropWhile gapB = (P.drop i).dropWhile gapB := by
        rw [← hdw, hdr, List.dropWhile_cons, hgap]
        rfl
      clear hdr
      generalize P[j] = b at *
      repeat (first | (simp only [go_sem, Nat.reduceEqDiff, Nat.reduceAdd, Nat.reduceSub, Nat.reduceMul, Nat.reduceLeDiff, Nat.reduceLT, reduceIte, reduceCtorEq, Nat.succ_ne_zero, elemsC, Int.reduceToNat, Nat.reducePow, j0, j4, j5, bs_size, vo_ix, idxB_bs, hg, mk_bs, jg, jo]) | (simp (disch := (first | omega | (simp only [AL, List.length_map]; omega))) only [AR, AL, ifT, ifF, take_all, List.length_cons, List.length_nil, Int.reduceToNat, Int.reducePow, Nat.reducePow, j0, j4, j5, bs_size, vo_ix, idxB_bs, hg, mk_bs, jg, jo]) | (refine wk_intro (by kernel_rfl) ?_) | (refine vf_of (by first | exact hx) ?_))
      exact ⟨⟨j + 1, rfl, by omega, by omega, hdw2⟩, by omega⟩
    | false =>
      have hz5 := hz4 hgap
      have hself : (P.drop j).dropWhile gapB = P.drop j := by rw [hdr, List.dropWhile_cons, hgap]; rfl
      rw [hself] at hdw
      rw [toks_skip, ← hdw] at hr
      have hcut := toks_cut (r := P.drop (j + 1)) hgap
      rw [← hdr] at hcut
      rw [hcut] at hr
      clear hdr hcut hself hdw
      have hng : ngB P[j] = true := by unfold ngB; rw [hgap]; rfl
      repeat (first | (simp only [go_sem, Nat.reduceEqDiff, Nat.reduceAdd, Nat.reduceSub, Nat.reduceMul, Nat.reduceLeDiff, Nat.reduceLT, reduceIte, reduceCtorEq, Nat.succ_ne_zero, elemsC, Int.reduceToNat, Nat.reducePow, j0, j4, j5, bs_size, vo_ix, idxB_bs, hg, mk_bs, jg, jo]) | (simp (disch := (first | omega | (simp only [AL, List.length_map]; omega))) only [AR, AL, ifT, ifF, take_all, List.length_cons, List.length_nil, Int.reduceToNat, Int.reducePow, Nat.reducePow, j0, j4, j5, bs_size, vo_ix, idxB_bs, hg, mk_bs, jg, jo]) | (refine wk_intro (by kernel_rfl) ?_) | (refine vf_of (by first | exact hx) ?_))
      refine vp_loop_inv (fun s => s.tmp 0 = .sv (.str (bs P)) ∧ s.tmp 4 = s3.tmp 4 ∧ s.gen 56 = s3.gen 56 ∧ s.obj 56 0 = s3.obj 56 0 ∧ s.tmp 5 = .sv (.int .i64 (j : Int)) ∧
          ∃ k : Nat, s.tmp 6 = .sv (.int .i64 (k : Int)) ∧ j ≤ k ∧ k ≤ P.length ∧ (P.drop j).takeWhile ngB = (P.drop j).take (k - j) ++ (P.drop k).takeWhile ngB ∧ (P.drop j).dropWhile ngB = (P.drop k).dropWhile ngB)
        (fun s => match s.tmp 6 with | .sv (.int _ k) => P.length - k.toNat | _ => 0) ?_ ?_
      · exact ⟨j0, rfl, rfl, rfl, j5, j, rfl, by omega, hj, by simp, rfl⟩
      rintro s4 ⟨k0, k4, kg, ko, k5, k, k6, hjk, hk, htw, hdw⟩
      have kk : s4.tmp 4 = s2.tmp 4 := k4.trans j4
      have kkg : s4.gen 56 = s2.gen 56 := kg.trans jg
      have kko : s4.obj 56 0 = s2.obj 56 0 := ko.trans jo
      have stop : (k = P.length ∨ ∃ hkl : k < P.length, gapB P[k] = true) → (P.drop k).takeWhile ngB = [] ∧ (P.drop k).dropWhile ngB = P.drop k ∧ j < k := by
        rintro (h | ⟨hkl, h⟩)
        · rw [h, List.drop_length]
          exact ⟨rfl, rfl, by omega⟩
        · rw [List.drop_eq_getElem_cons hkl, List.takeWhile_cons, List.dropWhile_cons]
          have e : ngB P[k] = false := by unfold ngB; rw [h]; rfl
          rw [e]
          refine ⟨rfl, rfl, ?_⟩
          rcases Nat.lt_or_ge j k with h1 | h1
          · exact h1
          · have : k = j := by omega
            subst this
            rw [hgap] at h
            cases h
      have done : (k = P.length ∨ ∃ hkl : k < P.length, gapB P[k] = true) → j < k ∧ ∃ w, w = (P.drop j).take (k - j) ∧ w.length ≤ 100000 ∧ runA qs (w :: toks [] (P.drop k)) = res := by
        intro h
        obtain ⟨h1, h2, h3⟩ := stop h
        refine ⟨h3, _, rfl, by rw [List.length_take]; omega, ?_⟩
        rw [h1, List.append_nil] at htw
        rw [htw, hdw, h2] at hr
        exact hr
      have fin : ∀ w : List UInt8, runA qs (w :: toks [] (P.drop k)) = res → ((numP w).1 ≠ 0 → finP res = ((numP w).1, [])) ∧ ((numP w).1 = 0 → runA (qs ++ [(numP w).2]) (toks [] (P.drop k)) = res) := by
        intro w hw
        refine ⟨fun h => ?_, fun h => ?_⟩
        · rw [runA_cons_bad h] at hw
          rw [← hw]
          cases hn : (numP w).1 with
          | zero => exact absurd hn h
          | succ n => rfl
        · rw [runA_cons_ok h] at hw
          exact hw
      have go : ∀ (w : List UInt8), j < k → w = (P.drop j).take (k - j) → w.length ≤ 100000 → runA qs (w :: toks [] (P.drop k)) = res →
          (∃ v, ratS v ∧ Go.Ev.Fn CX 21 [.str (bs w)] (.tup [v, .int .i64 ((numP w).1 : Int)]) ∧ ((numP w).1 = 0 → v = rv (numP w).2)) := by
        intro w _ _ hw _
        obtain ⟨v, h1, h2, h3⟩ := data_Number w (by omega)
        exact ⟨v, h1, h2, fun h => (h3 h).1⟩
      by_cases hke : k = P.length
      · obtain ⟨hjk', w, hw, hwl, hrw⟩ := done (.inl hke)
        have hw' : (P.drop j).take (k - j) = w := hw.symm
        obtain ⟨v, ⟨sg, n1, c1, n2, c2, rfl⟩, hN, hv⟩ := go w hjk' hw hwl hrw
        obtain ⟨f1, f2⟩ := fin w hrw
        by_cases hm : (numP w).1 = 0
        · have f3 := f2 hm
          rw [hv hm, hm] at hN
          generalize (numP w).2 = q at *
          have hap := rvsC_app qs q
          have hrl := rvsC_len qs
          clear go fin done stop hx hv f1 f2
          unfold rv ratV at hN
          rcases hc with ⟨rfl, i4, ig⟩ | ⟨hq0, i4, iO⟩
          · rw [i4] at kk
            rw [ig] at kkg
            repeat (first | (simp only [go_sem, Nat.reduceEqDiff, Nat.reduceAdd, Nat.reduceSub, Nat.reduceMul, Nat.reduceLeDiff, Nat.reduceLT, reduceIte, reduceCtorEq, Nat.succ_ne_zero, elemsC, Int.reduceToNat, Nat.reducePow, k0, k5, k6, bs_size, mk_bs, bs_extract, hw', kk, kkg]) | (simp (disch := (first | omega | (simp only [AL, List.length_map]; omega))) only [AR, AL, ifT, ifF, take_all, List.length_cons, List.length_nil, Int.reduceToNat, Int.reducePow, Nat.reducePow, k0, k5, k6, bs_size, mk_bs, bs_extract, hw', kk, kkg]) | (refine wk_intro (by kernel_rfl) ?_) | (refine vf_of (by first | exact hN) ?_))
            refine sc_goto (by exact rfl) ?_
            simp only [go_sem, Nat.reduceEqDiff, Nat.reduceAdd, Nat.reduceSub, Nat.reduceMul, Nat.reduceLeDiff, Nat.reduceLT, reduceIte, reduceCtorEq, Nat.succ_ne_zero, elemsC, Int.reduceToNat, Nat.reducePow]
            refine ih _ ⟨?_, k, [q], ?_, by omega, by simp; omega, f3, .inr ⟨by simp, ?_, ?_⟩⟩ ?_
            · simp only [go_sem, Nat.reduceEqDiff, Nat.reduceAdd, Nat.reduceSub, Nat.reduceMul, Nat.reduceLeDiff, Nat.reduceLT, reduceIte, reduceCtorEq, Nat.succ_ne_zero, elemsC, Int.reduceToNat, Nat.reducePow, k0, kk, kkg]
            · simp only [go_sem, Nat.reduceEqDiff, Nat.reduceAdd, Nat.reduceSub, Nat.reduceMul, Nat.reduceLeDiff, Nat.reduceLT, reduceIte, reduceCtorEq, Nat.succ_ne_zero, elemsC, Int.reduceToNat, Nat.reducePow, k6]
            · simp only [go_sem, Nat.reduceEqDiff, Nat.reduceAdd, Nat.reduceSub, Nat.reduceMul, Nat.reduceLeDiff, Nat.reduceLT, reduceIte, reduceCtorEq, Nat.succ_ne_zero, elemsC, Int.reduceToNat, Nat.reducePow, kk, kkg]
              first | rfl | skip
            · simp only [go_sem, Nat.reduceEqDiff, Nat.reduceAdd, Nat.reduceSub, Nat.reduceMul, Nat.reduceLeDiff, Nat.reduceLT, reduceIte, reduceCtorEq, Nat.succ_ne_zero, elemsC, Int.reduceToNat, Nat.reducePow, kk, kkg]
              first | rfl | skip
            · simp only [go_sem, Nat.reduceEqDiff, Nat.reduceAdd, Nat.reduceSub, Nat.reduceMul, Nat.reduceLeDiff, Nat.reduceLT, reduceIte, reduceCtorEq, Nat.succ_ne_zero, elemsC, Int.reduceToNat, Nat.reducePow, k6]
              simp
              omega
          · rw [i4] at kk
            rw [iO] at kko
            unfold rvC at hap
            repeat (first | (simp only [go_sem, Nat.reduceEqDiff, Nat.reduceAdd, Nat.reduceSub, Nat.reduceMul, Nat.reduceLeDiff, Nat.reduceLT, reduceIte, reduceCtorEq, Nat.succ_ne_zero, elemsC, Int.reduceToNat, Nat.reducePow, k0, k5, k6, bs_size, mk_bs, bs_extract, hw', kk, kko, N0, hrl]) | (simp (disch := (first | omega | (simp only [AL, List.length_map]; omega))) only [AR, AL, ifT, ifF, take_all, List.length_cons, List.length_nil, Int.reduceToNat, Int.reducePow, Nat.reducePow, k0, k5, k6, bs_size, mk_bs, bs_extract, hw', kk, kko, N0, hrl]) | (refine wk_intro (by kernel_rfl) ?_) | (refine vf_of (by first | exact hN) ?_))
            refine sc_goto (by exact rfl) ?_
            simp only [go_sem, Nat.reduceEqDiff, Nat.reduceAdd, Nat.reduceSub, Nat.reduceMul, Nat.reduceLeDiff, Nat.reduceLT, reduceIte, reduceCtorEq, Nat.succ_ne_zero, elemsC, Int.reduceToNat, Nat.reducePow]
            refine ih _ ⟨?_, k, qs ++ [q], ?_, by omega, by simp; omega, f3, .inr ⟨by simp, ?_, ?_⟩⟩ ?_
            · simp only [go_sem, Nat.reduceEqDiff, Nat.reduceAdd, Nat.reduceSub, Nat.reduceMul, Nat.reduceLeDiff, Nat.reduceLT, reduceIte, reduceCtorEq, Nat.succ_ne_zero, elemsC, Int.reduceToNat, Nat.reducePow, k0, kk, kko, hrl]
            · simp only [go_sem, Nat.reduceEqDiff, Nat.reduceAdd, Nat.reduceSub, Nat.reduceMul, Nat.reduceLeDiff, Nat.reduceLT, reduceIte, reduceCtorEq, Nat.succ_ne_zero, elemsC, Int.reduceToNat, Nat.reducePow, k6]
            · simp only [go_sem, Nat.reduceEqDiff, Nat.reduceAdd, Nat.reduceSub, Nat.reduceMul, Nat.reduceLeDiff, Nat.reduceLT, reduceIte, reduceCtorEq, Nat.succ_ne_zero, elemsC, Int.reduceToNat, Nat.reducePow, kk, kko, List.length_append]
              first | rfl | skip
            · simp only [go_sem, Nat.reduceEqDiff, Nat.reduceAdd, Nat.reduceSub, Nat.reduceMul, Nat.reduceLeDiff, Nat.reduceLT, reduceIte, reduceCtorEq, Nat.succ_ne_zero, elemsC, Int.reduceToNat, Nat.reducePow, kk, kko, hap]
              first | rfl | skip
            · simp only [go_sem, Nat.reduceEqDiff, Nat.reduceAdd, Nat.reduceSub, Nat.reduceMul, Nat.reduceLeDiff, Nat.reduceLT, reduceIte, reduceCtorEq, Nat.succ_ne_zero, elemsC, Int.reduceToNat, Nat.reducePow, k6]
              simp
              omega
        · rw [f1 hm]
          generalize (numP w).1 = m at *
          clear go fin done stop hx hv f1 f2
          repeat (first | (simp only [go_sem, Nat.reduceEqDiff, Nat.reduceAdd, Nat.reduceSub, Nat.reduceMul, Nat.reduceLeDiff, Nat.reduceLT, reduceIte, reduceCtorEq, Nat.succ_ne_zero, elemsC, Int.reduceToNat, Nat.reducePow, k0, k5, k6, bs_size, mk_bs, bs_extract, hw']) | (simp (disch := (first | omega | (simp only [AL, List.length_map]; omega))) only [AR, AL, ifT, ifF, take_all, List.length_cons, List.length_nil, Int.reduceToNat, Int.reducePow, Nat.reducePow, k0, k5, k6, bs_size, mk_bs, bs_extract, hw']) | (refine wk_intro (by kernel_rfl) ?_) | (refine vf_of (by first | exact hN) ?_))
          first | exact ⟨rfl, rfl⟩ | rfl | skip
      · have hkl : k < P.length := by omega
        have hgk : P[k]? = some P[k] := List.getElem?_eq_getElem hkl
        obtain ⟨y, hy0, hy1, hy2, hy3, hy4⟩ := gap_index P[k]
        have hyx := str_IndexByte [32, 44, 10] P[k]
        rw [hy0] at hyx
        cases hgapk : gapB P[k] with
        | true =>
          have hy5 := hy3 hgapk
          obtain ⟨hjk', w, hw, hwl, hrw⟩ := done (.inr ⟨hkl, hgapk⟩)
          have hw' : (P.drop j).take (k - j) = w := hw.symm
          clear hy3 hy4
          generalize P[k] = b at *
          obtain ⟨v, ⟨sg, n1, c1, n2, c2, rfl⟩, hN, hv⟩ := go w hjk' hw hwl hrw
          obtain ⟨f1, f2⟩ := fin w hrw
          by_cases hm : (numP w).1 = 0
          · have f3 := f2 hm
            rw [hv hm, hm] at hN
            generalize (numP w).2 = q at *
            have hap := rvsC_app qs q
            have hrl := rvsC_len qs
            clear go fin done stop hx hv f1 f2
            unfold rv ratV at hN
            rcases hc with ⟨rfl, i4, ig⟩ | ⟨hq0, i4, iO⟩
            · rw [i4] at kk
              rw [ig] at kkg
              repeat (first | (simp only [go_sem, Nat.reduceEqDiff, Nat.reduceAdd, Nat.reduceSub, Nat.reduceMul, Nat.reduceLeDiff, Nat.reduceLT, reduceIte, reduceCtorEq, Nat.succ_ne_zero, elemsC, Int.reduceToNat, Nat.reducePow, k0, k5, k6, bs_size, mk_bs, bs_extract, vo_ix, idxB_bs, hgk, hw', kk, kkg]) | (simp (disch := (first | omega | (simp only [AL, List.length_map]; omega))) only [AR, AL, ifT, ifF, take_all, List.length_cons, List.length_nil, Int.reduceToNat, Int.reducePow, Nat.reducePow, k0, k5, k6, bs_size, mk_bs, bs_extract, vo_ix, idxB_bs, hgk, hw', kk, kkg]) | (refine wk_intro (by kernel_rfl) ?_) | (refine vf_of (by first | exact hyx | exact hN) ?_))
              refine sc_goto (by exact rfl) ?_
              simp only [go_sem, Nat.reduceEqDiff, Nat.reduceAdd, Nat.reduceSub, Nat.reduceMul, Nat.reduceLeDiff, Nat.reduceLT, reduceIte, reduceCtorEq, Nat.succ_ne_zero, elemsC, Int.reduceToNat, Nat.reducePow]
              refine ih _ ⟨?_, k, [q], ?_, by omega, by simp; omega, f3, .inr ⟨by simp, ?_, ?_⟩⟩ ?_
              · simp only [go_sem, Nat.reduceEqDiff, Nat.reduceAdd, Nat.reduceSub, Nat.reduceMul, Nat.reduceLeDiff, Nat.reduceLT, reduceIte, reduceCtorEq, Nat.succ_ne_zero, elemsC, Int.reduceToNat, Nat.reducePow, k0, kk, kkg]
              · simp only [go_sem, Nat.reduceEqDiff, Nat.reduceAdd, Nat.reduceSub, Nat.reduceMul, Nat.reduceLeDiff, Nat.reduceLT, reduceIte, reduceCtorEq, Nat.succ_ne_zero, elemsC, Int.reduceToNat, Nat.reducePow, k6]
              · simp only [go_sem, Nat.reduceEqDiff, Nat.reduceAdd, Nat.reduceSub, Nat.reduceMul, Nat.reduceLeDiff, Nat.reduceLT, reduceIte, reduceCtorEq, Nat.succ_ne_zero, elemsC, Int.reduceToNat, Nat.reducePow, kk, kkg]
                first | rfl | skip
              · simp only [go_sem, Nat.reduceEqDiff, Nat.reduceAdd, Nat.reduceSub, Nat.reduceMul, Nat.reduceLeDiff, Nat.reduceLT, reduceIte, reduceCtorEq, Nat.succ_ne_zero, elemsC, Int.reduceToNat, Nat.reducePow, kk, kkg]
                first | rfl | skip
              · simp only [go_sem, Nat.reduceEqDiff, Nat.reduceAdd, Nat.reduceSub, Nat.reduceMul, Nat.reduceLeDiff, Nat.reduceLT, reduceIte, reduceCtorEq, Nat.succ_ne_zero, elemsC, Int.reduceToNat, Nat.reducePow, k6]
                simp
                omega
            · rw [i4] at kk
              rw [iO] at kko
              unfold rvC at hap
              repeat (first | (simp only [go_sem, Nat.reduceEqDiff, Nat.reduceAdd, Nat.reduceSub, Nat.reduceMul, Nat.reduceLeDiff, Nat.reduceLT, reduceIte, reduceCtorEq, Nat.succ_ne_zero, elemsC, Int.reduceToNat, Nat.reducePow, k0, k5, k6, bs_size, mk_bs, bs_extract, vo_ix, idxB_bs, hgk, hw', kk, kko, N0, hrl]) | (simp (disch := (first | omega | (simp only [AL, List.length_map]; omega))) only [AR, AL, ifT, ifF, take_all, List.length_cons, List.length_nil, Int.reduceToNat, Int.reducePow, Nat.reducePow, k0, k5, k6, bs_size, mk_bs, bs_extract, vo_ix, idxB_bs, hgk, hw', kk, kko, N0, hrl]) | (refine wk_intro (by kernel_rfl) ?_) | (refine vf_of (by first | exact hyx | exact hN) ?_))
              refine sc_goto (by exact rfl) ?_
              simp only [go_sem, Nat.reduceEqDiff, Nat.reduceAdd, Nat.reduceSub, Nat.reduceMul, Nat.reduceLeDiff, Nat.reduceLT, reduceIte, reduceCtorEq, Nat.succ_ne_zero, elemsC, Int.reduceToNat, Nat.reducePow]
              refine ih _ ⟨?_, k, qs ++ [q], ?_, by omega, by simp; omega, f3, .inr ⟨by simp, ?_, ?_⟩⟩ ?_
              · simp only [go_sem, Nat.reduceEqDiff, Nat.reduceAdd, Nat.reduceSub, Nat.reduceMul, Nat.reduceLeDiff, Nat.reduceLT, reduceIte, reduceCtorEq, Nat.succ_ne_zero, elemsC, Int.reduceToNat, Nat.reducePow, k0, kk, kko, hrl]
              · simp only [go_sem, Nat.reduceEqDiff, Nat.reduceAdd, Nat.reduceSub, Nat.reduceMul, Nat.reduceLeDiff, Nat.reduceLT, reduceIte, reduceCtorEq, Nat.succ_ne_zero, elemsC, Int.reduceToNat, Nat.reducePow, k6]
              · simp only [go_sem, Nat.reduceEqDiff, Nat.reduceAdd, Nat.reduceSub, Nat.reduceMul, Nat.reduceLeDiff, Nat.reduceLT, reduceIte, reduceCtorEq, Nat.succ_ne_zero, elemsC, Int.reduceToNat, Nat.reducePow, kk, kko, List.length_append]
                first | rfl | skip
              · simp only [go_sem, Nat.reduceEqDiff, Nat.reduceAdd, Nat.reduceSub, Nat.reduceMul, Nat.reduceLeDiff, Nat.reduceLT, reduceIte, reduceCtorEq, Nat.succ_ne_zero, elemsC, Int.reduceToNat, Nat.reducePow, kk, kko, hap]
                first | rfl | skip
              · simp only [go_sem, Nat.reduceEqDiff, Nat.reduceAdd, Nat.reduceSub, Nat.reduceMul, Nat.reduceLeDiff, Nat.reduceLT, reduceIte, reduceCtorEq, Nat.succ_ne_zero, elemsC, Int.reduceToNat, Nat.reducePow, k6]
                simp
                omega
          · rw [f1 hm]
            generalize (numP w).1 = m at *
            clear go fin done stop hx hv f1 f2
            repeat (first | (simp only [go_sem, Nat.reduceEqDiff, Nat.reduceAdd, Nat.reduceSub, Nat.reduceMul, Nat.reduceLeDiff, Nat.reduceLT, reduceIte, reduceCtorEq, Nat.succ_ne_zero, elemsC, Int.reduceToNat, Nat.reducePow, k0, k5, k6, bs_size, mk_bs, bs_extract, vo_ix, idxB_bs, hgk, hw']) | (simp (disch := (first | omega | (simp only [AL, List.length_map]; omega))) only [AR, AL, ifT, ifF, take_all, List.length_cons, List.length_nil, Int.reduceToNat, Int.reducePow, Nat.reducePow, k0, k5, k6, bs_size, mk_bs, bs_extract, vo_ix, idxB_bs, hgk, hw']) | (refine wk_intro (by kernel_rfl) ?_) | (refine vf_of (by first | exact hyx | exact hN) ?_))
            first | exact ⟨rfl, rfl⟩ | rfl | skip
        | false =>
          have hy5 := hy4 hgapk
          have hngk : ngB P[k] = true := by unfold ngB; rw [hgapk]; rfl
          have h2 : (P.drop j).dropWhile ngB = (P.drop (k + 1)).dropWhile ngB := by
            rw [hdw, List.drop_eq_getElem_cons hkl, List.dropWhile_cons, hngk]
            rfl
          have h3 : (P.drop j).takeWhile ngB = (P.drop j).take (k + 1 - j) ++ (P.drop (k + 1)).takeWhile ngB := by
            rw [htw, List.drop_eq_getElem_cons hkl, List.takeWhile_cons, hngk, show k + 1 - j = (k - j) + 1 by omega, List.take_add_one, List.getElem?_drop, show j + (k - j) = k by omega, hgk]
            simp
          clear go fin done stop hx hy3 hy4
          generalize P[k] = b at *
          repeat (first | (simp only [go_sem, Nat.reduceEqDiff, Nat.reduceAdd, Nat.reduceSub, Nat.reduceMul, Nat.reduceLeDiff, Nat.reduceLT, reduceIte, reduceCtorEq, Nat.succ_ne_zero, elemsC, Int.reduceToNat, Nat.reducePow, k0, k4, k5, k6, bs_size, mk_bs, vo_ix, idxB_bs, hgk, kg, ko]) | (simp (disch := (first | omega | (simp only [AL, List.length_map]; omega))) only [AR, AL, ifT, ifF, take_all, List.length_cons, List.length_nil, Int.reduceToNat, Int.reducePow, Nat.reducePow, k0, k4, k5, k6, bs_size, mk_bs, vo_ix, idxB_bs, hgk, kg, ko]) | (refine wk_intro (by kernel_rfl) ?_) | (refine vf_of (by first | exact hyx) ?_))
          exact ⟨⟨k + 1, rfl, by omega, by omega, h3, h2⟩, by omega⟩
end Go.Proofs.YtkkmnjhecjkhgaaGreatDoor
namespace Go.Proofs.YtkkmnjhecjkhgaaGreatDoor
open Go.Ev
def noS : InR := (false, [], [])
theorem ratsC_atS : ∀ {ps : List InR} {k : Nat}, k < ps.length → ∃ rest, (ratsC ps).drop (k * 3) = .bool (ps.getD k noS).1 :: natV (ps.getD k noS).2.1 :: natV (ps.getD k noS).2.2 :: rest
  | [], _, h => by simp at h
  | p :: ps, 0, _ => ⟨_, rfl⟩
  | p :: ps, k + 1, h => by
    obtain ⟨r, this⟩ := ratsC_atS (ps := ps) (k := k) (by simpa using h)
    refine ⟨r, ?_⟩
    rw [ratsC_cons]
    have e : ∀ j, (SV.bool p.1 :: natV p.2.1 :: natV p.2.2 :: ratsC ps).drop (j + 3) = (ratsC ps).drop j := fun _ => rfl
    rw [show (k + 1) * 3 = k * 3 + 3 by omega, e, this]
    rfl
def big3 (p : InR) : Bool := decide (3 < p.2.1.length) || decide (3 < p.2.2.length)
theorem any_takeS {α : Type} (f : α → Bool) (l : List α) (d : α) {i : Nat} (h : i < l.length) : (l.take (i + 1)).any f = ((l.take i).any f || f (l.getD i d)) := by
  rw [List.take_add_one, List.any_append, List.getElem?_eq_getElem h, List.getD_eq_getElem?_getD, List.getElem?_eq_getElem h]
  simp
theorem any_of_getDS {α : Type} (f : α → Bool) (l : List α) (d : α) {i : Nat} (h : i < l.length) (hf : f (l.getD i d) = true) : l.any f = true := by
  refine List.any_eq_true.2 ⟨l.getD i d, ?_, hf⟩
  rw [List.getD_eq_getElem?_getD, List.getElem?_eq_getElem h]
  exact List.getElem_mem h
theorem big3_row {ps : List InR} (h : ps.any big3 = false) (hok : ∀ p ∈ ps, p.ok) : RowC (ratsC ps) (ps.map InR.q) 3 := by
  refine ratsC_row ps fun p hp => ⟨hok p hp, ?_⟩
  have h2 := List.any_eq_false.1 h p hp
  unfold big3 at h2
  have h3 : (decide (3 < p.2.1.length) || decide (3 < p.2.2.length)) = false := by simpa using h2
  rw [Bool.or_eq_false_iff] at h3
  have h4 := of_decide_eq_false h3.1
  have h5 := of_decide_eq_false h3.2
  omega
theorem law16_big (ps : List InR) (hl : ps.length ≤ 1099511627776) : Go.Ev.Fn CX 12 [.sl ps.length (ratsC ps)] (.bool (ps.any big3)) := by
  have hlen := ratsC_len ps
  refine Go.Ev.Fn.intro (fn := Tryz.f12) (body := (Tryz.f12).body.get!) (by kernel_rfl) (by kernel_rfl) (by kernel_rfl) (fun _ => rfl) (Nat.le_of_ble_eq_true (by kernel_rfl)) ?_; unfold Tryz.f12; simp only [Option.get!_some]
  repeat (first | (simp only [go_sem, Nat.reduceEqDiff, Nat.reduceAdd, Nat.reduceSub, Nat.reduceMul, Nat.reduceLeDiff, Nat.reduceLT, reduceIte, reduceCtorEq, Nat.succ_ne_zero, elemsC, Int.reduceToNat, Nat.reducePow]) | (simp (disch := (first | omega | (simp only [AL, List.length_map]; omega))) only [AR, AL, ifT, ifF, take_all, List.length_cons, List.length_nil, Int.reduceToNat, Int.reducePow, Nat.reducePow]) | (refine wk_intro (by kernel_rfl) ?_))
  refine vp_loop_inv (fun s => s.tmp 0 = .sv (.sl ps.length (ratsC ps)) ∧ ∃ k : Nat, s.tmp 3 = .sv (.int .i64 (k : Int)) ∧ k ≤ ps.length ∧ (ps.take k).any big3 = false)
    (fun s => match s.tmp 3 with | .sv (.int _ i) => ps.length - i.toNat | _ => 0) ⟨rfl, 0, rfl, by omega, rfl⟩ ?_
  rintro s ⟨i0, k, i3, hk, hb⟩
  by_cases hend : k = ps.length
  · subst hend
    rw [List.take_length] at hb
    rw [hb]
    repeat (first | (simp only [go_sem, Nat.reduceEqDiff, Nat.reduceAdd, Nat.reduceSub, Nat.reduceMul, Nat.reduceLeDiff, Nat.reduceLT, reduceIte, reduceCtorEq, Nat.succ_ne_zero, elemsC, Int.reduceToNat, Nat.reducePow, i0, i3]) | (simp (disch := (first | omega | (simp only [AL, List.length_map]; omega))) only [AR, AL, ifT, ifF, take_all, List.length_cons, List.length_nil, Int.reduceToNat, Int.reducePow, Nat.reducePow, i0, i3]) | (refine wk_intro (by kernel_rfl) ?_))
  · obtain ⟨rest, g1⟩ := ratsC_atS (ps := ps) (k := k) (by omega)
    have gor := any_takeS big3 ps noS (i := k) (by omega)
    have gtr := any_of_getDS big3 ps noS (i := k) (by omega)
    rw [hb, Bool.false_or] at gor
    generalize hp : ps.getD k noS = p at *
    obtain ⟨s, n, d⟩ := p
    simp only at g1
    by_cases c1 : 3 < n.length
    · rw [gtr (by unfold big3; rw [decide_eq_true c1]; rfl)]
      clear gtr gor
      repeat (first | (simp only [go_sem, Nat.reduceEqDiff, Nat.reduceAdd, Nat.reduceSub, Nat.reduceMul, Nat.reduceLeDiff, Nat.reduceLT, reduceIte, reduceCtorEq, Nat.succ_ne_zero, elemsC, Int.reduceToNat, Nat.reducePow, i0, i3, g1, hlen, List.drop_succ_cons, List.drop_zero, List.head?_cons]) | (simp (disch := (first | omega | (simp only [AL, List.length_map]; omega))) only [AR, AL, ifT, ifF, take_all, List.length_cons, List.length_nil, Int.reduceToNat, Int.reducePow, Nat.reducePow, i0, i3, g1, hlen, List.drop_succ_cons, List.drop_zero, List.head?_cons]) | (refine wk_intro (by kernel_rfl) ?_))
    · by_cases c2 : 3 < d.length
      · rw [gtr (by unfold big3; rw [decide_eq_true c2, Bool.or_true])]
        clear gtr gor
        repeat (first | (simp only [go_sem, Nat.reduceEqDiff, Nat.reduceAdd, Nat.reduceSub, Nat.reduceMul, Nat.reduceLeDiff, Nat.reduceLT, reduceIte, reduceCtorEq, Nat.succ_ne_zero, elemsC, Int.reduceToNat, Nat.reducePow, i0, i3, g1, hlen, List.drop_succ_cons, List.drop_zero, List.head?_cons]) | (simp (disch := (first | omega | (simp only [AL, List.length_map]; omega))) only [AR, AL, ifT, ifF, take_all, List.length_cons, List.length_nil, Int.reduceToNat, Int.reducePow, Nat.reducePow, i0, i3, g1, hlen, List.drop_succ_cons, List.drop_zero, List.head?_cons]) | (refine wk_intro (by kernel_rfl) ?_))
      · have hbn : big3 (s, n, d) = false := by unfold big3; rw [decide_eq_false c1, decide_eq_false c2]; rfl
        rw [hbn] at gor
        clear gtr hbn
        repeat (first | (simp only [go_sem, Nat.reduceEqDiff, Nat.reduceAdd, Nat.reduceSub, Nat.reduceMul, Nat.reduceLeDiff, Nat.reduceLT, reduceIte, reduceCtorEq, Nat.succ_ne_zero, elemsC, Int.reduceToNat, Nat.reducePow, i0, i3, g1, hlen, List.drop_succ_cons, List.drop_zero, List.head?_cons]) | (simp (disch := (first | omega | (simp only [AL, List.length_map]; omega))) only [AR, AL, ifT, ifF, take_all, List.length_cons, List.length_nil, Int.reduceToNat, Int.reducePow, Nat.reducePow, i0, i3, g1, hlen, List.drop_succ_cons, List.drop_zero, List.head?_cons]) | (refine wk_intro (by kernel_rfl) ?_))
        exact ⟨⟨k + 1, rfl, by omega, gor⟩, by omega⟩
theorem ref2_RatsG {l : List Rat} {cs ds : List SV} {L M : Nat} (h1 : RowC cs l L) (h2 : RowC ds l M) (hL : 1 ≤ L) (hM : 1 ≤ M) (hLM : L + M ≤ 8388608) (hl : l.length ≤ 100000) :
    Go.Ev.Fn CX 16 [.sl l.length cs, .sl l.length ds] (.bool true) := by
  have la := row_len h1
  have lb := row_len h2
  have at1 := fun {i : Nat} (hi : i < l.length) => row_at (i := i) h1 hi
  have at2 := fun {i : Nat} (hi : i < l.length) => row_at (i := i) h2 hi
  refine Go.Ev.Fn.intro (fn := Tryz.f16) (body := (Tryz.f16).body.get!) (by kernel_rfl) (by kernel_rfl) (by kernel_rfl) (fun _ => rfl) (Nat.le_of_ble_eq_true (by kernel_rfl)) ?_; unfold Tryz.f16; simp only [Option.get!_some]
  repeat (first | (simp only [go_sem, Nat.reduceEqDiff, Nat.reduceAdd, Nat.reduceSub, Nat.reduceMul, Nat.reduceLeDiff, Nat.reduceLT, reduceIte, reduceCtorEq, Nat.succ_ne_zero, elemsC, Int.reduceToNat, Nat.reducePow]) | (simp (disch := (first | omega | (simp only [AL, List.length_map]; omega))) only [AR, AL, ifT, ifF, take_all, List.length_cons, List.length_nil, Int.reduceToNat, Int.reducePow, Nat.reducePow]) | (refine wk_intro (by kernel_rfl) ?_) | (refine vp_draw (id := 6) (l := []) (by kernel_rfl) ?_))
  refine vp_loop_inv (fun s => s.tmp 0 = .sv (.sl l.length cs) ∧ s.tmp 1 = .sv (.sl l.length ds) ∧ ∃ i : Nat, s.tmp 5 = .sv (.int .i64 (i : Int)) ∧ i ≤ l.length) (fun s => match s.tmp 5 with | .sv (.int _ i) => l.length - i.toNat | _ => 0) ⟨rfl, rfl, 0, rfl, by omega⟩ ?_
  rintro s ⟨i0, i1, i, i5, hi⟩
  by_cases hend : i = l.length
  · subst hend
    repeat (first | (simp only [go_sem, Nat.reduceEqDiff, Nat.reduceAdd, Nat.reduceSub, Nat.reduceMul, Nat.reduceLeDiff, Nat.reduceLT, reduceIte, reduceCtorEq, Nat.succ_ne_zero, elemsC, Int.reduceToNat, Nat.reducePow, i0, i1, i5]) | (simp (disch := (first | omega | (simp only [AL, List.length_map]; omega))) only [AR, AL, ifT, ifF, take_all, List.length_cons, List.length_nil, Int.reduceToNat, Int.reducePow, Nat.reducePow, i0, i1, i5]) | (refine wk_intro (by kernel_rfl) ?_) | (refine vp_draw (id := 6) (l := []) (by kernel_rfl) ?_))
  · obtain ⟨sx, nx, dx, rx, g1, r1⟩ := at1 (i := i) (by omega)
    obtain ⟨sy, ny, dy, ry, g2, r2⟩ := at2 (i := i) (by omega)
    have sm := ref2_Same r1 r2 hL hM hLM
    rw [decide_eq_true rfl] at sm
    clear at1 at2 r1 r2
    repeat (first | (simp only [go_sem, Nat.reduceEqDiff, Nat.reduceAdd, Nat.reduceSub, Nat.reduceMul, Nat.reduceLeDiff, Nat.reduceLT, reduceIte, reduceCtorEq, Nat.succ_ne_zero, elemsC, Int.reduceToNat, Nat.reducePow, i0, i1, i5, g1, g2, la, lb, Bool.not_true]) | (simp (disch := (first | omega | (simp only [AL, List.length_map]; omega))) only [AR, AL, ifT, ifF, take_all, List.length_cons, List.length_nil, Int.reduceToNat, Int.reducePow, Nat.reducePow, i0, i1, i5, g1, g2, la, lb, Bool.not_true]) | (refine wk_intro (by kernel_rfl) ?_) | (refine vp_draw (id := 6) (l := []) (by kernel_rfl) ?_) | (refine vf_of (by first | exact sm) ?_))
    exact ⟨⟨i + 1, rfl, by omega⟩, by omega⟩
end Go.Proofs.YtkkmnjhecjkhgaaGreatDoor
namespace Go.Proofs.YtkkmnjhecjkhgaaGreatDoor
open Go.Ev
theorem known_parse : parseP [49, 44, 32, 50, 46, 53, 32, 35, 32, 120] = (0, [1, mkRat 5 2]) := by kernel_rfl
theorem known_cells : rvsC [1, mkRat 5 2] = [.bool false, natV [1], natV [1], .bool false, natV [5], natV [2]] := by kernel_rfl
theorem law16_known : Go.Ev.Fn CX 14 [] (.bool true) := by
  have hp := data_Parse [49, 44, 32, 50, 46, 53, 32, 35, 32, 120] (by decide)
  rw [known_parse] at hp
  simp only [known_cells, List.length_cons, List.length_nil] at hp
  have o := ref2_Of false [5] [2] (by simp [okL]) (by simp [okL]) (by decide) (by decide)
  have e5 : (rv (mkRat (sgn false (wth [5])) (wth [2])) : SV) = ratV false [5] [2] := by kernel_rfl
  rw [e5] at o
  have r1 : RatA (ratV false [5] [2]) (mkRat (sgn false (wth [5])) (wth [2])) 1 := ⟨_, _, _, rfl, by simp [okL], by simp [okL], by decide, by decide, rfl⟩
  have sm := ref2_Same r1 r1 (by omega) (by omega) (by omega)
  rw [decide_eq_true rfl] at sm
  refine Go.Ev.Fn.intro (fn := Tryz.f14) (body := (Tryz.f14).body.get!) (by kernel_rfl) (by kernel_rfl) (by kernel_rfl) (fun _ => rfl) (Nat.le_of_ble_eq_true (by kernel_rfl)) ?_; unfold Tryz.f14; simp only [Option.get!_some]
  repeat (first | (simp only [go_sem, Nat.reduceEqDiff, Nat.reduceAdd, Nat.reduceSub, Nat.reduceMul, Nat.reduceLeDiff, Nat.reduceLT, reduceIte, reduceCtorEq, Nat.succ_ne_zero, elemsC, Int.reduceToNat, Nat.reducePow, mk_bs, List.drop_succ_cons, List.drop_zero, List.head?_cons]) | (simp (disch := (first | omega | (simp only [AL, List.length_map]; omega))) only [AR, AL, ifT, ifF, take_all, List.length_cons, List.length_nil, Int.reduceToNat, Int.reducePow, Nat.reducePow, mk_bs, List.drop_succ_cons, List.drop_zero, List.head?_cons]) | (refine wk_intro (by kernel_rfl) ?_) | (refine vp_draw (id := 2) (l := [18, 19]) (by kernel_rfl) ?_) | (refine vf_of (by first | exact hp | exact o | exact sm) ?_))
end Go.Proofs.YtkkmnjhecjkhgaaGreatDoor
namespace Go.Proofs.YtkkmnjhecjkhgaaGreatDoor
open Go.Ev
theorem and31 (x : Int) : ∃ z : Nat, z ≤ 31 ∧ bitsSV .and .i64 x 31 = some (.int .i64 (z : Int)) := by
  have h : (BitVec.ofInt IntKind.i64.bits x &&& BitVec.ofInt IntKind.i64.bits 31).toNat ≤ 31 := by
    rw [BitVec.toNat_and]
    exact Nat.le_trans Nat.and_le_right (by decide)
  refine ⟨(BitVec.ofInt IntKind.i64.bits x &&& BitVec.ofInt IntKind.i64.bits 31).toNat, h, ?_⟩
  unfold bitsSV
  rw [wI64 (by omega)]
theorem tm5 (G : Nat) : ∃ y : Nat, y < 5 ∧ (G : Int).tmod 5 = (y : Int) := by
  refine ⟨G % 5, Nat.mod_lt _ (by omega), ?_⟩
  rw [Int.tmod_eq_emod_of_nonneg (by omega)]
  omega
theorem gap_at (k : Nat) (h : k < 5) : (List.drop k [SV.str (bs [32]), SV.str (bs [44]), SV.str (bs [10]), SV.str (bs [32, 35, 32, 53, 32, 59, 32, 120, 10]), SV.str (bs [32, 44, 44, 32])]).head? = some (.str (bs (gapT k))) := by
  match k, h with
  | 0, _ => rfl
  | 1, _ => rfl
  | 2, _ => rfl
  | 3, _ => rfl
  | 4, _ => rfl
theorem gapT_len (k : Nat) : (gapT k).length ≤ 9 := by
  unfold gapT
  split <;> decide
theorem blank_law (s0 : SV) (sh0 : ShpT Tryz.prog 7 22 [s0]) (a1 : Int) (w1 : (Lit.int .i64 a1).wf = true) : Go.Ev.Fn CX 3 [s0, .int .i64 a1] (.bool true) := by
  obtain ⟨ps, h0, hlen, hok⟩ := shp_rats (n := 3) sh0
  obtain rfl : s0 = rowV ps := by simpa using h0
  have hK := law16_known
  show Go.Ev.Fn CX 3 [.sl ps.length (ratsC ps), .int .i64 a1] (.bool true)
  by_cases h1 : 20 < ps.length
  · refine Go.Ev.Fn.intro (fn := Tryz.f3) (body := (Tryz.f3).body.get!) (by kernel_rfl) (by kernel_rfl) (by kernel_rfl) (fun _ => rfl) (Nat.le_of_ble_eq_true (by kernel_rfl)) ?_; unfold Tryz.f3; simp only [Option.get!_some]
    repeat (first | (simp only [go_sem, Nat.reduceEqDiff, Nat.reduceAdd, Nat.reduceSub, Nat.reduceMul, Nat.reduceLeDiff, Nat.reduceLT, reduceIte, reduceCtorEq, Nat.succ_ne_zero, elemsC, Int.reduceToNat, Nat.reducePow]) | (simp (disch := (first | omega | (simp only [AL, List.length_map]; omega))) only [AR, AL, ifT, ifF, take_all, List.length_cons, List.length_nil, Int.reduceToNat, Int.reducePow, Nat.reducePow]) | (refine wk_intro (by kernel_rfl) ?_) | (refine vp_draw (id := 9) (l := []) (by kernel_rfl) ?_))
  have hB := law16_big ps (by omega)
  cases hb : ps.any big3 with
  | true =>
    rw [hb] at hB
    refine Go.Ev.Fn.intro (fn := Tryz.f3) (body := (Tryz.f3).body.get!) (by kernel_rfl) (by kernel_rfl) (by kernel_rfl) (fun _ => rfl) (Nat.le_of_ble_eq_true (by kernel_rfl)) ?_; unfold Tryz.f3; simp only [Option.get!_some]
    repeat (first | (simp only [go_sem, Nat.reduceEqDiff, Nat.reduceAdd, Nat.reduceSub, Nat.reduceMul, Nat.reduceLeDiff, Nat.reduceLT, reduceIte, reduceCtorEq, Nat.succ_ne_zero, elemsC, Int.reduceToNat, Nat.reducePow]) | (simp (disch := (first | omega | (simp only [AL, List.length_map]; omega))) only [AR, AL, ifT, ifF, take_all, List.length_cons, List.length_nil, Int.reduceToNat, Int.reducePow, Nat.reducePow]) | (refine wk_intro (by kernel_rfl) ?_) | (refine vp_draw (id := 9) (l := []) (by kernel_rfl) ?_) | (refine vf_of (by first | exact hB) ?_))
  | false =>
    rw [hb] at hB
    by_cases hg0 : a1 < 0
    · refine Go.Ev.Fn.intro (fn := Tryz.f3) (body := (Tryz.f3).body.get!) (by kernel_rfl) (by kernel_rfl) (by kernel_rfl) (fun _ => rfl) (Nat.le_of_ble_eq_true (by kernel_rfl)) ?_; unfold Tryz.f3; simp only [Option.get!_some]
      repeat (first | (simp only [go_sem, Nat.reduceEqDiff, Nat.reduceAdd, Nat.reduceSub, Nat.reduceMul, Nat.reduceLeDiff, Nat.reduceLT, reduceIte, reduceCtorEq, Nat.succ_ne_zero, elemsC, Int.reduceToNat, Nat.reducePow]) | (simp (disch := (first | omega | (simp only [AL, List.length_map]; omega))) only [AR, AL, ifT, ifF, take_all, List.length_cons, List.length_nil, Int.reduceToNat, Int.reducePow, Nat.reducePow]) | (refine wk_intro (by kernel_rfl) ?_) | (refine vp_draw (id := 9) (l := []) (by kernel_rfl) ?_) | (refine vf_of (by first | exact hB) ?_))
    obtain ⟨g, rfl⟩ : ∃ g : Nat, a1 = g := ⟨a1.toNat, by omega⟩
    have hrow := big3_row hb hok
    have hcl := ratsC_len ps
    have hat := fun {i : Nat} (hi : i < (ps.map InR.q).length) => row_at (i := i) hrow hi
    have hml : (ps.map InR.q).length = ps.length := List.length_map _
    have hsz := row_sz (by omega) hrow
    generalize hcs : ratsC ps = cs at *
    generalize hQ : ps.map InR.q = Q at *
    have dr := ref2_RatsG hrow (rvsC_row Q fun x hx => hsz x hx) (by omega) (by omega) (by omega) (by omega)
    rw [hml] at dr hat
    refine Go.Ev.Fn.intro (fn := Tryz.f3) (body := (Tryz.f3).body.get!) (by kernel_rfl) (by kernel_rfl) (by kernel_rfl) (fun _ => rfl) (Nat.le_of_ble_eq_true (by kernel_rfl)) ?_; unfold Tryz.f3; simp only [Option.get!_some]
    repeat (first | (simp only [go_sem, Nat.reduceEqDiff, Nat.reduceAdd, Nat.reduceSub, Nat.reduceMul, Nat.reduceLeDiff, Nat.reduceLT, reduceIte, reduceCtorEq, Nat.succ_ne_zero, elemsC, Int.reduceToNat, Nat.reducePow]) | (simp (disch := (first | omega | (simp only [AL, List.length_map]; omega))) only [AR, AL, ifT, ifF, take_all, List.length_cons, List.length_nil, Int.reduceToNat, Int.reducePow, Nat.reducePow]) | (refine wk_intro (by kernel_rfl) ?_) | (refine vp_draw (id := 9) (l := []) (by kernel_rfl) ?_) | (refine vf_of (by first | exact hB) ?_))
    refine vp_loop_inv (fun s => s.tmp 0 = .sv (.sl ps.length cs) ∧ s.tmp 1 = .sv (.int .i64 (g : Int)) ∧ ∃ (i : Nat) (l : List (Nat × Rat)), s.tmp 6 = .sv (.int .i64 (i : Int)) ∧ i ≤ ps.length ∧ l.map (·.2) = Q.take i ∧ (∀ x ∈ l, (ratT x.2).length ≤ 60) ∧
        s.tmp 5 = .sv (.str (bs ((l.map fun x => gapT x.1 ++ ratT x.2).flatten))) ∧ ((l.map fun x => gapT x.1 ++ ratT x.2).flatten).length ≤ 80 * i)
      (fun s => match s.tmp 6 with | .sv (.int _ i) => ps.length - i.toNat | _ => 0) ?_ ?_
    · exact ⟨rfl, rfl, 0, [], rfl, by omega, rfl, fun x hx => by simp at hx, rfl, by simp⟩
    rintro s ⟨i0, i1, i, l, i6, hi, hlq, hl60, i5, hll⟩
    by_cases hend : i = ps.length
    · subst hend
      rw [List.take_of_length_le (by omega)] at hlq
      have hln : l.length = ps.length := by rw [← hml, ← hlq, List.length_map]
      have hpr := parse_gaps hl60 (by omega)
      have dp := data_Parse ((l.map fun x => gapT x.1 ++ ratT x.2).flatten ++ [32, 35]) (by rw [List.length_append]; simp only [List.length_cons, List.length_nil]; omega)
      rw [hpr, hlq] at dp
      simp only [hml] at dp
      generalize (l.map fun x => gapT x.1 ++ ratT x.2).flatten = F at *
      clear hat hpr
      repeat (first | (simp only [go_sem, Nat.reduceEqDiff, Nat.reduceAdd, Nat.reduceSub, Nat.reduceMul, Nat.reduceLeDiff, Nat.reduceLT, reduceIte, reduceCtorEq, Nat.succ_ne_zero, elemsC, Int.reduceToNat, Nat.reducePow, i0, i1, i6, i5, mk_bs, bs_size, bs_append]) | (simp (disch := (first | omega | (simp only [AL, List.length_map]; omega))) only [AR, AL, ifT, ifF, take_all, List.length_cons, List.length_nil, Int.reduceToNat, Int.reducePow, Nat.reducePow, i0, i1, i6, i5, mk_bs, bs_size, bs_append]) | (refine wk_intro (by kernel_rfl) ?_) | (refine vp_draw (id := 9) (l := []) (by kernel_rfl) ?_) | (refine vf_of (by first | exact dp | exact dr | exact hK) ?_))
    · have hlt : i < ps.length := by omega
      obtain ⟨s', n', d', rest, g1, g2⟩ := hat hlt
      have hp := ref3_Print g2 (by omega) (by omega)
      by_cases h60 : 60 < (ratT (Q.getD i 0)).length
      · clear hat g2
        repeat (first | (simp only [go_sem, Nat.reduceEqDiff, Nat.reduceAdd, Nat.reduceSub, Nat.reduceMul, Nat.reduceLeDiff, Nat.reduceLT, reduceIte, reduceCtorEq, Nat.succ_ne_zero, elemsC, Int.reduceToNat, Nat.reducePow, i0, i1, i6, i5, g1, hcl, bs_size]) | (simp (disch := (first | omega | (simp only [AL, List.length_map]; omega))) only [AR, AL, ifT, ifF, take_all, List.length_cons, List.length_nil, Int.reduceToNat, Int.reducePow, Nat.reducePow, i0, i1, i6, i5, g1, hcl, bs_size]) | (refine wk_intro (by kernel_rfl) ?_) | (refine vp_draw (id := 9) (l := []) (by kernel_rfl) ?_) | (refine vf_of (by first | exact hp | exact hK) ?_))
      · obtain ⟨z, hz, hzw⟩ := and31 (2 * (i : Int))
        have hq2 : ∀ k : Nat, (l ++ [(k, Q.getD i 0)]).map (·.2) = Q.take (i + 1) := by
          intro k
          rw [List.map_append, hlq, List.take_add_one, List.getElem?_eq_getElem (by omega), List.getD_eq_getElem?_getD, List.getElem?_eq_getElem (by omega)]
          rfl
        have hl2 : ∀ k : Nat, ∀ x ∈ l ++ [(k, Q.getD i 0)], (ratT x.2).length ≤ 60 := by
          intro k x hx
          rcases List.mem_append.1 hx with hx | hx
          · exact hl60 x hx
          · rw [List.mem_singleton] at hx
            subst hx
            show (ratT (Q.getD i 0)).length ≤ 60
            omega
        have hf2 : ∀ k : Nat, ((l ++ [(k, Q.getD i 0)]).map fun x => gapT x.1 ++ ratT x.2).flatten = (l.map fun x => gapT x.1 ++ ratT x.2).flatten ++ gapT k ++ ratT (Q.getD i 0) := by
          intro k
          rw [List.map_append, List.flatten_append]
          simp
        have hzu : IntKind.u64.wrap (z : Int) = (z : Int) := wU64 (by omega)
        have hk5 := tm5 (g / 2 ^ z)
        obtain ⟨y, hy, hyw⟩ := hk5
        have hga := gap_at y hy
        have hgl := gapT_len y
        have hf3 := hf2 y
        have hq3 := hq2 y
        have hl3 := hl2 y
        generalize hF2 : ((l ++ [(y, Q.getD i 0)]).map fun x => gapT x.1 ++ ratT x.2).flatten = F2 at *
        generalize hF : (l.map fun x => gapT x.1 ++ ratT x.2).flatten = F at *
        generalize hT : ratT (Q.getD i 0) = T at *
        have hF2l : F2.length ≤ 80 * (i + 1) := by rw [hf3, List.length_append, List.length_append]; omega
        clear hat g2 hq2 hl2 hf2
        repeat (first | (simp only [go_sem, Nat.reduceEqDiff, Nat.reduceAdd, Nat.reduceSub, Nat.reduceMul, Nat.reduceLeDiff, Nat.reduceLT, reduceIte, reduceCtorEq, Nat.succ_ne_zero, elemsC, Int.reduceToNat, Nat.reducePow, i0, i1, i6, i5, g1, hcl, bs_size]) | (simp (disch := (first | omega | (simp only [AL, List.length_map]; omega))) only [AR, AL, ifT, ifF, take_all, List.length_cons, List.length_nil, Int.reduceToNat, Int.reducePow, Nat.reducePow, i0, i1, i6, i5, g1, hcl, bs_size]) | (refine wk_intro (by kernel_rfl) ?_) | (refine vp_draw (id := 9) (l := []) (by kernel_rfl) ?_) | (refine vf_of (by first | exact hp) ?_))
        repeat (first | (simp only [go_sem, Nat.reduceEqDiff, Nat.reduceAdd, Nat.reduceSub, Nat.reduceMul, Nat.reduceLeDiff, Nat.reduceLT, reduceIte, reduceCtorEq, Nat.succ_ne_zero, elemsC, Int.reduceToNat, Nat.reducePow, i0, i1, i6, i5, g1, hcl, bs_size, bs_append, mk_bs, hzw, hzu, Int.toNat_natCast, hyw, hga]) | (simp (disch := (first | omega | (simp only [AL, List.length_map]; omega))) only [AR, AL, ifT, ifF, take_all, List.length_cons, List.length_nil, Int.reduceToNat, Int.reducePow, Nat.reducePow, i0, i1, i6, i5, g1, hcl, bs_size, bs_append, mk_bs, hzw, hzu, Int.toNat_natCast, hyw, hga]) | (refine wk_intro (by kernel_rfl) ?_) | (refine vp_draw (id := 9) (l := []) (by kernel_rfl) ?_) | (refine vf_of (by first | exact hp) ?_))
        exact ⟨⟨i + 1, l ++ [(y, Q.getD i 0)], rfl, by omega, hq3, hl3, by rw [hF2, hf3], by rw [hF2]; exact hF2l⟩, by omega⟩
end Go.Proofs.YtkkmnjhecjkhgaaGreatDoor
