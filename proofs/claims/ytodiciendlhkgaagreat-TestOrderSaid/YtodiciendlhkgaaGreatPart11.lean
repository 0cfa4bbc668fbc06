/- Part 11 of the proof: the evaluator, contracts of functions and their plain laws (joined by program). No condition. -/
import Derived.Test.YtodiciendlhkgaaGreatPart10
/- vernierlaw19: much, numbers, in the evaluator. -/
namespace Go.Proofs.YtodiciendlhkgaaGreat
set_option linter.unusedSimpArgs false
set_option linter.unusedVariables false
set_option maxRecDepth 8000
open Go.Ev
def noR : InR := (false, [], [])
theorem ratsC_at : ∀ {ps : List InR} {k : Nat}, k < ps.length → ∃ rest, (ratsC ps).drop (k * 3) = .bool (ps.getD k noR).1 :: natV (ps.getD k noR).2.1 :: natV (ps.getD k noR).2.2 :: rest
  | [], _, h => by simp at h
  | p :: ps, 0, _ => ⟨_, rfl⟩
  | p :: ps, k + 1, h => by
    obtain ⟨r, this⟩ := ratsC_at (ps := ps) (k := k) (by simpa using h)
    refine ⟨r, ?_⟩
    rw [ratsC_cons]
    have e : ∀ j, (SV.bool p.1 :: natV p.2.1 :: natV p.2.2 :: ratsC ps).drop (j + 3) = (ratsC ps).drop j := fun _ => rfl
    rw [show (k + 1) * 3 = k * 3 + 3 by omega, e, this]
    rfl
/-- Is a number more than is looked at? -/
def bigN (p : InR) : Bool := decide (1 < p.2.1.length) || decide (1 < p.2.2.length)
/-- Is a row? -/
def bigR (ps : List InR) : Bool := decide (12 < ps.length) || ps.any bigN
theorem any_take {α : Type} (f : α → Bool) (l : List α) (d : α) {i : Nat} (h : i < l.length) : (l.take (i + 1)).any f = ((l.take i).any f || f (l.getD i d)) := by
  rw [List.take_add_one, List.any_append, List.getElem?_eq_getElem h, List.getD_eq_getElem?_getD, List.getElem?_eq_getElem h]
  simp
theorem any_of_getD {α : Type} (f : α → Bool) (l : List α) (d : α) {i : Nat} (h : i < l.length) (hf : f (l.getD i d) = true) : l.any f = true := by
  refine List.any_eq_true.2 ⟨l.getD i d, ?_, hf⟩
  rw [List.getD_eq_getElem?_getD, List.getElem?_eq_getElem h]
  exact List.getElem_mem h
theorem tab_at {rows : List (List InR)} {i : Nat} (h : i < rows.length) : ((rows.map rowV).drop i).head? = some (.sl (rows.getD i []).length (ratsC (rows.getD i []))) := by
  rw [List.head?_drop, List.getElem?_map, List.getD_eq_getElem?_getD, List.getElem?_eq_getElem h]
  rfl
theorem bigR_small {ps : List InR} (h : bigR ps = false) : ps.length ≤ 12 ∧ ∀ p ∈ ps, p.2.1.length ≤ 1 ∧ p.2.2.length ≤ 1 := by
  unfold bigR at h
  rw [Bool.or_eq_false_iff] at h
  refine ⟨by have := of_decide_eq_false h.1; omega, fun p hp => ?_⟩
  have h2 := List.any_eq_false.1 h.2 p hp
  unfold bigN at h2
  have h3 : (decide (1 < p.2.1.length) || decide (1 < p.2.2.length)) = false := by simpa using h2
  rw [Bool.or_eq_false_iff] at h3
  have h4 := of_decide_eq_false h3.1
  have h5 := of_decide_eq_false h3.2
  omega
theorem bigR_row {ps : List InR} (h : bigR ps = false) (hok : ∀ p ∈ ps, p.ok) : RowC (ratsC ps) (ps.map InR.q) 1 ∧ ps.length ≤ 12 := by
  obtain ⟨h1, h2⟩ := bigR_small h
  exact ⟨ratsC_row ps fun p hp => ⟨hok p hp, h2 p hp⟩, h1⟩
theorem law19_much {rows : List (List InR)} (hn : rows.length ≤ 1099511627776) (hm : ∀ ps ∈ rows, ps.length ≤ 9223372036854775807) : Go.Ev.Fn CX 16 [.sl rows.length (rows.map rowV)] (.bool (rows.any bigR)) := by
  have hlen : (rows.map rowV).length = rows.length := List.length_map _
  have hat := fun {i : Nat} (h : i < rows.length) => tab_at h
  have hps : ∀ i, i < rows.length → (rows.getD i []).length ≤ 9223372036854775807 := by
    intro i h
    refine hm _ ?_
    rw [List.getD_eq_getElem?_getD, List.getElem?_eq_getElem h]
    exact List.getElem_mem h
  generalize hcs : rows.map rowV = cs at *
  refine Go.Ev.Fn.intro (fn := Tryz.f16) (body := (Tryz.f16).body.get!) (by kernel_rfl) (by kernel_rfl) (by kernel_rfl) (fun _ => rfl) (Nat.le_of_ble_eq_true (by kernel_rfl)) ?_; unfold Tryz.f16; simp only [Option.get!_some]
  repeat (first | (simp only [go_sem, Nat.reduceEqDiff, Nat.reduceAdd, Nat.reduceSub, Nat.reduceMul, Nat.reduceLeDiff, Nat.reduceLT, reduceIte, reduceCtorEq, Nat.succ_ne_zero, elemsC, Int.reduceToNat, Nat.reducePow]) | (simp (disch := (first | omega | (simp only [AL, List.length_map]; omega))) only [AR, AL, ifT, ifF, take_all, List.length_cons, List.length_nil, Int.reduceToNat, Int.reducePow, Nat.reducePow]) | (refine wk_intro (by kernel_rfl) ?_))
  refine vp_loop_inv (fun s => s.tmp 0 = .sv (.sl rows.length cs) ∧ ∃ i : Nat, s.tmp 3 = .sv (.int .i64 (i : Int)) ∧ i ≤ rows.length ∧ (rows.take i).any bigR = false)
    (fun s => match s.tmp 3 with | .sv (.int _ i) => rows.length - i.toNat | _ => 0) ⟨rfl, 0, rfl, by omega, rfl⟩ ?_
  rintro s2 ⟨i0, i, i3, hi, hb⟩
  by_cases hend : i = rows.length
  · subst hend
    rw [List.take_length] at hb
    rw [hb]
    repeat (first | (simp only [go_sem, Nat.reduceEqDiff, Nat.reduceAdd, Nat.reduceSub, Nat.reduceMul, Nat.reduceLeDiff, Nat.reduceLT, reduceIte, reduceCtorEq, Nat.succ_ne_zero, elemsC, Int.reduceToNat, Nat.reducePow, i0, i3]) | (simp (disch := (first | omega | (simp only [AL, List.length_map]; omega))) only [AR, AL, ifT, ifF, take_all, List.length_cons, List.length_nil, Int.reduceToNat, Int.reducePow, Nat.reducePow, i0, i3]) | (refine wk_intro (by kernel_rfl) ?_))
  · have h1 := hat (i := i) (by omega)
    have h2 := hps i (by omega)
    have hor := any_take bigR rows [] (i := i) (by omega)
    have htr := any_of_getD bigR rows [] (i := i) (by omega)
    rw [hb, Bool.false_or] at hor
    generalize rows.getD i [] = ps at *
    by_cases hbig : 12 < ps.length
    · rw [htr (by unfold bigR; rw [decide_eq_true hbig]; rfl)]
      clear hor htr hat hps
      repeat (first | (simp only [go_sem, Nat.reduceEqDiff, Nat.reduceAdd, Nat.reduceSub, Nat.reduceMul, Nat.reduceLeDiff, Nat.reduceLT, reduceIte, reduceCtorEq, Nat.succ_ne_zero, elemsC, Int.reduceToNat, Nat.reducePow, i0, i3, h1, hlen]) | (simp (disch := (first | omega | (simp only [AL, List.length_map]; omega))) only [AR, AL, ifT, ifF, take_all, List.length_cons, List.length_nil, Int.reduceToNat, Int.reducePow, Nat.reducePow, i0, i3, h1, hlen]) | (refine wk_intro (by kernel_rfl) ?_))
    · have hpl := ratsC_len ps
      have hbr : bigR ps = ps.any bigN := by unfold bigR; rw [decide_eq_false hbig]; rfl
      clear hat hps
      repeat (first | (simp only [go_sem, Nat.reduceEqDiff, Nat.reduceAdd, Nat.reduceSub, Nat.reduceMul, Nat.reduceLeDiff, Nat.reduceLT, reduceIte, reduceCtorEq, Nat.succ_ne_zero, elemsC, Int.reduceToNat, Nat.reducePow, i0, i3, h1, hlen]) | (simp (disch := (first | omega | (simp only [AL, List.length_map]; omega))) only [AR, AL, ifT, ifF, take_all, List.length_cons, List.length_nil, Int.reduceToNat, Int.reducePow, Nat.reducePow, i0, i3, h1, hlen]) | (refine wk_intro (by kernel_rfl) ?_))
      refine vp_loop_inv (fun s => s.tmp 0 = .sv (.sl rows.length cs) ∧ s.tmp 3 = .sv (.int .i64 (i : Int)) ∧ ∃ k : Nat, s.tmp 4 = .sv (.int .i64 (k : Int)) ∧ k ≤ ps.length ∧ (ps.take k).any bigN = false)
        (fun s => match s.tmp 4 with | .sv (.int _ i) => ps.length - i.toNat | _ => 0) ⟨i0, i3, 0, rfl, by omega, rfl⟩ ?_
      rintro s3 ⟨j0, j3, k, j4, hk, hkb⟩
      by_cases hkend : k = ps.length
      · subst hkend
        rw [List.take_length] at hkb
        rw [hbr, hkb] at hor
        clear htr
        repeat (first | (simp only [go_sem, Nat.reduceEqDiff, Nat.reduceAdd, Nat.reduceSub, Nat.reduceMul, Nat.reduceLeDiff, Nat.reduceLT, reduceIte, reduceCtorEq, Nat.succ_ne_zero, elemsC, Int.reduceToNat, Nat.reducePow, j0, j3, j4, h1, hlen]) | (simp (disch := (first | omega | (simp only [AL, List.length_map]; omega))) only [AR, AL, ifT, ifF, take_all, List.length_cons, List.length_nil, Int.reduceToNat, Int.reducePow, Nat.reducePow, j0, j3, j4, h1, hlen]) | (refine wk_intro (by kernel_rfl) ?_))
        exact ⟨⟨i + 1, rfl, by omega, hor⟩, by omega⟩
      · obtain ⟨rest, g1⟩ := ratsC_at (ps := ps) (k := k) (by omega)
        have gor := any_take bigN ps noR (i := k) (by omega)
        have gtr := any_of_getD bigN ps noR (i := k) (by omega)
        rw [hkb, Bool.false_or] at gor
        generalize hp : ps.getD k noR = p at *
        obtain ⟨s, n, d⟩ := p
        simp only at g1
        by_cases c1 : 1 < n.length
        · rw [htr (by rw [hbr]; exact gtr (by unfold bigN; rw [decide_eq_true c1]; rfl))]
          clear htr gtr gor hor
          repeat (first | (simp only [go_sem, Nat.reduceEqDiff, Nat.reduceAdd, Nat.reduceSub, Nat.reduceMul, Nat.reduceLeDiff, Nat.reduceLT, reduceIte, reduceCtorEq, Nat.succ_ne_zero, elemsC, Int.reduceToNat, Nat.reducePow, j0, j3, j4, h1, hlen, g1, hpl, List.drop_succ_cons, List.drop_zero, List.head?_cons]) | (simp (disch := (first | omega | (simp only [AL, List.length_map]; omega))) only [AR, AL, ifT, ifF, take_all, List.length_cons, List.length_nil, Int.reduceToNat, Int.reducePow, Nat.reducePow, j0, j3, j4, h1, hlen, g1, hpl, List.drop_succ_cons, List.drop_zero, List.head?_cons]) | (refine wk_intro (by kernel_rfl) ?_))
        · by_cases c2 : 1 < d.length
          · rw [htr (by rw [hbr]; exact gtr (by unfold bigN; rw [decide_eq_true c2, Bool.or_true]))]
            clear htr gtr gor hor
            repeat (first | (simp only [go_sem, Nat.reduceEqDiff, Nat.reduceAdd, Nat.reduceSub, Nat.reduceMul, Nat.reduceLeDiff, Nat.reduceLT, reduceIte, reduceCtorEq, Nat.succ_ne_zero, elemsC, Int.reduceToNat, Nat.reducePow, j0, j3, j4, h1, hlen, g1, hpl, List.drop_succ_cons, List.drop_zero, List.head?_cons]) | (simp (disch := (first | omega | (simp only [AL, List.length_map]; omega))) only [AR, AL, ifT, ifF, take_all, List.length_cons, List.length_nil, Int.reduceToNat, Int.reducePow, Nat.reducePow, j0, j3, j4, h1, hlen, g1, hpl, List.drop_succ_cons, List.drop_zero, List.head?_cons]) | (refine wk_intro (by kernel_rfl) ?_))
          · have hbn : bigN (s, n, d) = false := by unfold bigN; rw [decide_eq_false c1, decide_eq_false c2]; rfl
            rw [hbn] at gor
            clear htr gtr hor hbn
            repeat (first | (simp only [go_sem, Nat.reduceEqDiff, Nat.reduceAdd, Nat.reduceSub, Nat.reduceMul, Nat.reduceLeDiff, Nat.reduceLT, reduceIte, reduceCtorEq, Nat.succ_ne_zero, elemsC, Int.reduceToNat, Nat.reducePow, j0, j3, j4, h1, hlen, g1, hpl, List.drop_succ_cons, List.drop_zero, List.head?_cons]) | (simp (disch := (first | omega | (simp only [AL, List.length_map]; omega))) only [AR, AL, ifT, ifF, take_all, List.length_cons, List.length_nil, Int.reduceToNat, Int.reducePow, Nat.reducePow, j0, j3, j4, h1, hlen, g1, hpl, List.drop_succ_cons, List.drop_zero, List.head?_cons]) | (refine wk_intro (by kernel_rfl) ?_))
            exact ⟨⟨k + 1, rfl, by omega, gor⟩, by omega⟩
/-- A row of whole numbers. -/
abbrev intsV (a : List Int) : SV := .sl a.length (a.map fun i => .int .i64 i)
theorem ints_at (a : List Int) {i : Nat} (h : i < a.length) : ((a.map fun i => SV.int .i64 i).drop i).head? = some (.int .i64 (a.getD i 0)) := by
  rw [List.head?_drop, List.getElem?_map, List.getD_eq_getElem?_getD, List.getElem?_eq_getElem h]
  rfl
theorem law19_numbers (a b : List Int) (ha : a.length ≤ 1000) (hb : b.length ≤ 1000) : Go.Ev.Fn CX 43 [intsV a, intsV b] (.bool (decide (a = b))) := by
  have ga := fun {i : Nat} (h : i < a.length) => ints_at a h
  have gb := fun {i : Nat} (h : i < b.length) => ints_at b h
  have la : (a.map fun i => SV.int .i64 i).length = a.length := List.length_map _
  have lb : (b.map fun i => SV.int .i64 i).length = b.length := List.length_map _
  show Go.Ev.Fn CX 43 [.sl a.length (a.map fun i => SV.int .i64 i), .sl b.length (b.map fun i => SV.int .i64 i)] _
  generalize (a.map fun i => SV.int .i64 i) = ca at *
  generalize (b.map fun i => SV.int .i64 i) = cb at *
  refine Go.Ev.Fn.intro (fn := Tryz.f43) (body := (Tryz.f43).body.get!) (by kernel_rfl) (by kernel_rfl) (by kernel_rfl) (fun _ => rfl) (Nat.le_of_ble_eq_true (by kernel_rfl)) ?_; unfold Tryz.f43; simp only [Option.get!_some]
  by_cases hl : a.length = b.length
  · repeat (first | (simp only [go_sem, Nat.reduceEqDiff, Nat.reduceAdd, Nat.reduceSub, Nat.reduceMul, Nat.reduceLeDiff, Nat.reduceLT, reduceIte, reduceCtorEq, Nat.succ_ne_zero, elemsC, Int.reduceToNat, Nat.reducePow]) | (simp (disch := (first | omega | (simp only [AL, List.length_map]; omega))) only [AR, AL, ifT, ifF, take_all, List.length_cons, List.length_nil, Int.reduceToNat, Int.reducePow, Nat.reducePow]) | (refine wk_intro (by kernel_rfl) ?_) | (refine vp_draw (id := 6) (l := []) (by kernel_rfl) ?_))
    refine vp_loop_inv (fun s => s.tmp 0 = .sv (.sl a.length ca) ∧ s.tmp 1 = .sv (.sl b.length cb) ∧ ∃ i : Nat, s.tmp 5 = .sv (.int .i64 i) ∧ i ≤ a.length ∧ a.take i = b.take i) (fun s => match s.tmp 5 with | .sv (.int _ i) => a.length - i.toNat | _ => 0) ⟨rfl, rfl, 0, rfl, by omega, rfl⟩ ?_
    rintro s ⟨i0, i1, i, i5, hi, ht⟩
    by_cases hend : i = a.length
    · subst hend
      rw [List.take_length, hl, List.take_length] at ht
      rw [decide_eq_true ht]
      repeat (first | (simp only [go_sem, Nat.reduceEqDiff, Nat.reduceAdd, Nat.reduceSub, Nat.reduceMul, Nat.reduceLeDiff, Nat.reduceLT, reduceIte, reduceCtorEq, Nat.succ_ne_zero, elemsC, Int.reduceToNat, Nat.reducePow, i0, i1, i5]) | (simp (disch := (first | omega | (simp only [AL, List.length_map]; omega))) only [AR, AL, ifT, ifF, take_all, List.length_cons, List.length_nil, Int.reduceToNat, Int.reducePow, Nat.reducePow, i0, i1, i5]) | (refine wk_intro (by kernel_rfl) ?_) | (refine vp_draw (id := 6) (l := []) (by kernel_rfl) ?_))
    · have e : ∀ c : List Int, i < c.length → c.take (i + 1) = c.take i ++ [c.getD i 0] := by
        intro c hc
        rw [List.take_add_one, List.getD_eq_getElem?_getD, List.getElem?_eq_getElem hc]
        rfl
      have h1 := ga (i := i) (by omega)
      have h2 := gb (i := i) (by omega)
      clear ga gb
      by_cases hx : a.getD i 0 = b.getD i 0
      · have hne : (a.getD i 0 != b.getD i 0) = false := by rw [hx]; exact bne_self_eq_false _
        have ht2 : a.take (i + 1) = b.take (i + 1) := by rw [e a (by omega), e b (by omega), ht, hx]
        clear e
        repeat (first | (simp only [go_sem, Nat.reduceEqDiff, Nat.reduceAdd, Nat.reduceSub, Nat.reduceMul, Nat.reduceLeDiff, Nat.reduceLT, reduceIte, reduceCtorEq, Nat.succ_ne_zero, elemsC, Int.reduceToNat, Nat.reducePow, i0, i1, i5, h1, h2, la, lb, hne]) | (simp (disch := (first | omega | (simp only [AL, List.length_map]; omega))) only [AR, AL, ifT, ifF, take_all, List.length_cons, List.length_nil, Int.reduceToNat, Int.reducePow, Nat.reducePow, i0, i1, i5, h1, h2, la, lb, hne]) | (refine wk_intro (by kernel_rfl) ?_) | (refine vp_draw (id := 6) (l := []) (by kernel_rfl) ?_))
        exact ⟨⟨i + 1, rfl, by omega, ht2⟩, by omega⟩
      · have hne : (a.getD i 0 != b.getD i 0) = true := bne_iff_ne.2 hx
        rw [decide_eq_false (fun h => hx (by rw [h]))]
        clear e
        repeat (first | (simp only [go_sem, Nat.reduceEqDiff, Nat.reduceAdd, Nat.reduceSub, Nat.reduceMul, Nat.reduceLeDiff, Nat.reduceLT, reduceIte, reduceCtorEq, Nat.succ_ne_zero, elemsC, Int.reduceToNat, Nat.reducePow, i0, i1, i5, h1, h2, la, lb, hne]) | (simp (disch := (first | omega | (simp only [AL, List.length_map]; omega))) only [AR, AL, ifT, ifF, take_all, List.length_cons, List.length_nil, Int.reduceToNat, Int.reducePow, Nat.reducePow, i0, i1, i5, h1, h2, la, lb, hne]) | (refine wk_intro (by kernel_rfl) ?_) | (refine vp_draw (id := 6) (l := []) (by kernel_rfl) ?_))
  · rw [decide_eq_false (fun h => hl (by rw [h]))]
    clear ga gb
    repeat (first | (simp only [go_sem, Nat.reduceEqDiff, Nat.reduceAdd, Nat.reduceSub, Nat.reduceMul, Nat.reduceLeDiff, Nat.reduceLT, reduceIte, reduceCtorEq, Nat.succ_ne_zero, elemsC, Int.reduceToNat, Nat.reducePow]) | (simp (disch := (first | omega | (simp only [AL, List.length_map]; omega))) only [AR, AL, ifT, ifF, take_all, List.length_cons, List.length_nil, Int.reduceToNat, Int.reducePow, Nat.reducePow]) | (refine wk_intro (by kernel_rfl) ?_) | (refine vp_draw (id := 6) (l := []) (by kernel_rfl) ?_))
end Go.Proofs.YtodiciendlhkgaaGreat

/- test.raw, isChi, Statistic, in the evaluator. -/
namespace Go.Proofs.YtodiciendlhkgaaGreat
set_option linter.unusedSimpArgs false
set_option linter.unusedVariables false
set_option maxRecDepth 8000
open Go.Ev
/-- A statistic that is told, if it is not too great. -/
def statR (kind : Int) (r : Res) : Res :=
  if r.2.2 ≠ 0 then (0, [], r.2.2) else if r.2.1.any (fun d => decide (256 < d)) = true then (0, [], 7) else if (kind = 1 ∨ kind = 6 ∨ kind = 7) ∧ 128 < r.1 then (0, [], 7) else (r.1, r.2.1, 0)
theorem test_isChi (kind : Int) : Go.Ev.Fn CX 35 [.int .i64 kind] (.bool (decide (kind = 1 ∨ kind = 6 ∨ kind = 7))) := by
  by_cases h1 : kind = 1
  · subst h1
    rw [decide_eq_true (by omega)]
    refine Go.Ev.Fn.intro (fn := Tryz.f35) (body := (Tryz.f35).body.get!) (by kernel_rfl) (by kernel_rfl) (by kernel_rfl) (fun _ => rfl) (Nat.le_of_ble_eq_true (by kernel_rfl)) ?_; unfold Tryz.f35; simp only [Option.get!_some]
    repeat (first | (simp only [go_sem, Nat.reduceEqDiff, Nat.reduceAdd, Nat.reduceSub, Nat.reduceMul, Nat.reduceLeDiff, Nat.reduceLT, reduceIte, reduceCtorEq, Nat.succ_ne_zero, elemsC, Int.reduceToNat, Nat.reducePow]) | (simp (disch := (first | omega | (simp only [AL, List.length_map]; omega))) only [AR, AL, ifT, ifF, take_all, List.length_cons, List.length_nil, Int.reduceToNat, Int.reducePow, Nat.reducePow]) | (refine wk_intro (by kernel_rfl) ?_))
  by_cases h2 : kind = 6
  · subst h2
    rw [decide_eq_true (by omega)]
    refine Go.Ev.Fn.intro (fn := Tryz.f35) (body := (Tryz.f35).body.get!) (by kernel_rfl) (by kernel_rfl) (by kernel_rfl) (fun _ => rfl) (Nat.le_of_ble_eq_true (by kernel_rfl)) ?_; unfold Tryz.f35; simp only [Option.get!_some]
    repeat (first | (simp only [go_sem, Nat.reduceEqDiff, Nat.reduceAdd, Nat.reduceSub, Nat.reduceMul, Nat.reduceLeDiff, Nat.reduceLT, reduceIte, reduceCtorEq, Nat.succ_ne_zero, elemsC, Int.reduceToNat, Nat.reducePow]) | (simp (disch := (first | omega | (simp only [AL, List.length_map]; omega))) only [AR, AL, ifT, ifF, take_all, List.length_cons, List.length_nil, Int.reduceToNat, Int.reducePow, Nat.reducePow]) | (refine wk_intro (by kernel_rfl) ?_))
  by_cases h3 : kind = 7
  · subst h3
    rw [decide_eq_true (by omega)]
    refine Go.Ev.Fn.intro (fn := Tryz.f35) (body := (Tryz.f35).body.get!) (by kernel_rfl) (by kernel_rfl) (by kernel_rfl) (fun _ => rfl) (Nat.le_of_ble_eq_true (by kernel_rfl)) ?_; unfold Tryz.f35; simp only [Option.get!_some]
    repeat (first | (simp only [go_sem, Nat.reduceEqDiff, Nat.reduceAdd, Nat.reduceSub, Nat.reduceMul, Nat.reduceLeDiff, Nat.reduceLT, reduceIte, reduceCtorEq, Nat.succ_ne_zero, elemsC, Int.reduceToNat, Nat.reducePow]) | (simp (disch := (first | omega | (simp only [AL, List.length_map]; omega))) only [AR, AL, ifT, ifF, take_all, List.length_cons, List.length_nil, Int.reduceToNat, Int.reducePow, Nat.reducePow]) | (refine wk_intro (by kernel_rfl) ?_))
  rw [decide_eq_false (by omega)]
  refine Go.Ev.Fn.intro (fn := Tryz.f35) (body := (Tryz.f35).body.get!) (by kernel_rfl) (by kernel_rfl) (by kernel_rfl) (fun _ => rfl) (Nat.le_of_ble_eq_true (by kernel_rfl)) ?_; unfold Tryz.f35; simp only [Option.get!_some]
  repeat (first | (simp only [go_sem, Nat.reduceEqDiff, Nat.reduceAdd, Nat.reduceSub, Nat.reduceMul, Nat.reduceLeDiff, Nat.reduceLT, reduceIte, reduceCtorEq, Nat.succ_ne_zero, elemsC, Int.reduceToNat, Nat.reducePow]) | (simp (disch := (first | omega | (simp only [AL, List.length_map]; omega))) only [AR, AL, ifT, ifF, take_all, List.length_cons, List.length_nil, Int.reduceToNat, Int.reducePow, Nat.reducePow]) | (refine wk_intro (by kernel_rfl) ?_))
section
variable {kind k n : Int} {X Y tn : Nat} {xs ys tc : List SV} {sm ss : Bool} {nm dm ns ds : List Nat}
theorem raw_T {l : List Rat} {mu : Rat} {L M : Nat} (h : RowC xs l L) (hL : 1 ≤ L) (hL2 : L ≤ 100) (hm : RatA (ratV sm nm dm) mu M) (hM : 1 ≤ M) (hM2 : M ≤ 100) (hl : l.length ≤ 12) (hY : Y ≤ 256) :
    Go.Ev.Fn CX 33 [testV 2 (.sl l.length xs) (.sl Y ys) (.sl tn tc) sm nm dm ss ns ds k n] (resV (stuR l mu)) := by
  have s1 := test_student h hm hL hL2 hM hM2 hl
  clear h hm
  refine Go.Ev.Fn.intro (fn := Tryz.f33) (body := (Tryz.f33).body.get!) (by kernel_rfl) (by kernel_rfl) (by kernel_rfl) (fun _ => rfl) (Nat.le_of_ble_eq_true (by kernel_rfl)) ?_; unfold Tryz.f33; simp only [Option.get!_some]
  repeat (first | (simp only [go_sem, Nat.reduceEqDiff, Nat.reduceAdd, Nat.reduceSub, Nat.reduceMul, Nat.reduceLeDiff, Nat.reduceLT, reduceIte, reduceCtorEq, Nat.succ_ne_zero, elemsC, Int.reduceToNat, Nat.reducePow]) | (simp (disch := (first | omega | (simp only [AL, List.length_map]; omega))) only [AR, AL, ifT, ifF, take_all, List.length_cons, List.length_nil, Int.reduceToNat, Int.reducePow, Nat.reducePow]) | (refine wk_intro (by kernel_rfl) ?_) | (refine vf_of (by first | exact s1) ?_))
theorem raw_paired {l m : List Rat} (h : RowC xs l 1) (h2 : RowC ys m 1) (hl : l.length ≤ 12) (hm : m.length ≤ 12) :
    Go.Ev.Fn CX 33 [testV 3 (.sl l.length xs) (.sl m.length ys) (.sl tn tc) sm nm dm ss ns ds k n] (resV (if l.length ≠ m.length then (0, [], 1) else stuR (List.zipWith (fun a b => a - b) l m) 0)) := by
  have s1 := test_paired h h2 hl hm
  generalize (if l.length ≠ m.length then ((0 : Rat), ([] : List Int), (1 : Int)) else stuR (List.zipWith (fun a b => a - b) l m) 0) = r at *
  clear h h2
  refine Go.Ev.Fn.intro (fn := Tryz.f33) (body := (Tryz.f33).body.get!) (by kernel_rfl) (by kernel_rfl) (by kernel_rfl) (fun _ => rfl) (Nat.le_of_ble_eq_true (by kernel_rfl)) ?_; unfold Tryz.f33; simp only [Option.get!_some]
  repeat (first | (simp only [go_sem, Nat.reduceEqDiff, Nat.reduceAdd, Nat.reduceSub, Nat.reduceMul, Nat.reduceLeDiff, Nat.reduceLT, reduceIte, reduceCtorEq, Nat.succ_ne_zero, elemsC, Int.reduceToNat, Nat.reducePow]) | (simp (disch := (first | omega | (simp only [AL, List.length_map]; omega))) only [AR, AL, ifT, ifF, take_all, List.length_cons, List.length_nil, Int.reduceToNat, Int.reducePow, Nat.reducePow]) | (refine wk_intro (by kernel_rfl) ?_) | (refine vf_of (by first | exact s1) ?_))
theorem raw_pooled {l m : List Rat} (h : RowC xs l 1) (h2 : RowC ys m 1) (hl : l.length ≤ 12) (hm : m.length ≤ 12) :
    Go.Ev.Fn CX 33 [testV 4 (.sl l.length xs) (.sl m.length ys) (.sl tn tc) sm nm dm ss ns ds k n] (resV (poolR l m)) := by
  have s1 := test_pooled h h2 hl hm
  clear h h2
  refine Go.Ev.Fn.intro (fn := Tryz.f33) (body := (Tryz.f33).body.get!) (by kernel_rfl) (by kernel_rfl) (by kernel_rfl) (fun _ => rfl) (Nat.le_of_ble_eq_true (by kernel_rfl)) ?_; unfold Tryz.f33; simp only [Option.get!_some]
  repeat (first | (simp only [go_sem, Nat.reduceEqDiff, Nat.reduceAdd, Nat.reduceSub, Nat.reduceMul, Nat.reduceLeDiff, Nat.reduceLT, reduceIte, reduceCtorEq, Nat.succ_ne_zero, elemsC, Int.reduceToNat, Nat.reducePow]) | (simp (disch := (first | omega | (simp only [AL, List.length_map]; omega))) only [AR, AL, ifT, ifF, take_all, List.length_cons, List.length_nil, Int.reduceToNat, Int.reducePow, Nat.reducePow]) | (refine wk_intro (by kernel_rfl) ?_) | (refine vf_of (by first | exact s1) ?_))
theorem raw_fisher {l m : List Rat} (h : RowC xs l 1) (h2 : RowC ys m 1) (hl : l.length ≤ 12) (hm : m.length ≤ 12) :
    Go.Ev.Fn CX 33 [testV 5 (.sl l.length xs) (.sl m.length ys) (.sl tn tc) sm nm dm ss ns ds k n] (resV (fisR l m)) := by
  have s1 := test_fisher h h2 hl hm
  clear h h2
  refine Go.Ev.Fn.intro (fn := Tryz.f33) (body := (Tryz.f33).body.get!) (by kernel_rfl) (by kernel_rfl) (by kernel_rfl) (fun _ => rfl) (Nat.le_of_ble_eq_true (by kernel_rfl)) ?_; unfold Tryz.f33; simp only [Option.get!_some]
  repeat (first | (simp only [go_sem, Nat.reduceEqDiff, Nat.reduceAdd, Nat.reduceSub, Nat.reduceMul, Nat.reduceLeDiff, Nat.reduceLT, reduceIte, reduceCtorEq, Nat.succ_ne_zero, elemsC, Int.reduceToNat, Nat.reducePow]) | (simp (disch := (first | omega | (simp only [AL, List.length_map]; omega))) only [AR, AL, ifT, ifF, take_all, List.length_cons, List.length_nil, Int.reduceToNat, Int.reducePow, Nat.reducePow]) | (refine wk_intro (by kernel_rfl) ?_) | (refine vf_of (by first | exact s1) ?_))
theorem test_Statistic {r : Res} (h : Go.Ev.Fn CX 33 [testV kind (.sl X xs) (.sl Y ys) (.sl tn tc) sm nm dm ss ns ds k n] (resV r)) (hz : szR r.1 1000000) (hd : r.2.1.length ≤ 1000) :
    Go.Ev.Fn CX 17 [testV kind (.sl X xs) (.sl Y ys) (.sl tn tc) sm nm dm ss ns ds k n] (resV (statR kind r)) := by
  obtain ⟨q, dg, e⟩ := r
  unfold statR
  have r0 := rat_Int 0 (by omega)
  have r1 := rat_Int 128 (by omega)
  have hc := test_isChi kind
  have h2 := rat_Cmp (RatA_rv hz) (RatA_rv (int_szR (n := 128) (by omega))) (by omega) (by omega) (by omega)
  have e2 : decide (cmpR q ((128 : Int) : Rat) > 0) = decide (128 < q) := cmpR_gt
  have hat := fun {i : Nat} (h : i < dg.length) => ints_at dg h
  have hln : (dg.map fun i => SV.int .i64 i).length = dg.length := List.length_map _
  simp only at h hz hd ⊢
  by_cases he : e = 0
  · subst he
    rw [if_neg (by simp)]
    have h' : Go.Ev.Fn CX 33 [testV kind (.sl X xs) (.sl Y ys) (.sl tn tc) sm nm dm ss ns ds k n] (.tup [rv q, .sl dg.length (dg.map fun i => SV.int .i64 i), .int .i64 0]) := h
    generalize hcs : (dg.map fun i => SV.int .i64 i) = cs at *
    clear h hz
    by_cases hany : dg.any (fun d => decide (256 < d)) = true
    · rw [if_pos hany]
      refine Go.Ev.Fn.intro (fn := Tryz.f17) (body := (Tryz.f17).body.get!) (by kernel_rfl) (by kernel_rfl) (by kernel_rfl) (fun _ => rfl) (Nat.le_of_ble_eq_true (by kernel_rfl)) ?_; unfold Tryz.f17; simp only [Option.get!_some]
      repeat (first | (simp only [go_sem, Nat.reduceEqDiff, Nat.reduceAdd, Nat.reduceSub, Nat.reduceMul, Nat.reduceLeDiff, Nat.reduceLT, reduceIte, reduceCtorEq, Nat.succ_ne_zero, elemsC, Int.reduceToNat, Nat.reducePow]) | (simp (disch := (first | omega | (simp only [AL, List.length_map]; omega))) only [AR, AL, ifT, ifF, take_all, List.length_cons, List.length_nil, Int.reduceToNat, Int.reducePow, Nat.reducePow]) | (refine wk_intro (by kernel_rfl) ?_) | (refine vp_draw (id := 10) (l := []) (by kernel_rfl) ?_) | (refine vf_of (by first | exact h') ?_))
      refine vp_loop_inv (fun s => s.tmp 2 = .ptr 2 0 0 ∧ s.obj 2 0 = some [.bool false, .sl 0 [], .sl 0 []] ∧ s.tmp 20 = .sv (.sl dg.length cs) ∧ s.tmp 21 = .sv (.int .i64 (dg.length : Int)) ∧
          ∃ i : Nat, s.tmp 22 = .sv (.int .i64 (i : Int)) ∧ i ≤ dg.length ∧ (dg.take i).any (fun d => decide (256 < d)) = false)
        (fun s => match s.tmp 22 with | .sv (.int _ i) => dg.length - i.toNat | _ => 0) ⟨rfl, rfl, rfl, rfl, 0, rfl, by omega, rfl⟩ ?_
      rintro s2 ⟨i2, iO, i20, i21, i, i22, hi, hb⟩
      by_cases hend : i = dg.length
      · subst hend
        rw [List.take_length, hany] at hb
        cases hb
      · have g1 := hat (i := i) (by omega)
        have hor := any_take (fun d => decide (256 < d)) dg (0 : Int) (i := i) (by omega)
        rw [hb, Bool.false_or] at hor
        generalize dg.getD i 0 = d at *
        clear hat hany
        by_cases hdd : 256 < d
        · clear hor
          repeat (first | (simp only [go_sem, Nat.reduceEqDiff, Nat.reduceAdd, Nat.reduceSub, Nat.reduceMul, Nat.reduceLeDiff, Nat.reduceLT, reduceIte, reduceCtorEq, Nat.succ_ne_zero, elemsC, Int.reduceToNat, Nat.reducePow, i2, iO, i20, i21, i22, g1, hln]) | (simp (disch := (first | omega | (simp only [AL, List.length_map]; omega))) only [AR, AL, ifT, ifF, take_all, List.length_cons, List.length_nil, Int.reduceToNat, Int.reducePow, Nat.reducePow, i2, iO, i20, i21, i22, g1, hln]) | (refine wk_intro (by kernel_rfl) ?_) | (refine vp_draw (id := 10) (l := []) (by kernel_rfl) ?_) | (refine vf_of (by first | exact r0) ?_))
          rfl
        · rw [decide_eq_false hdd] at hor
          repeat (first | (simp only [go_sem, Nat.reduceEqDiff, Nat.reduceAdd, Nat.reduceSub, Nat.reduceMul, Nat.reduceLeDiff, Nat.reduceLT, reduceIte, reduceCtorEq, Nat.succ_ne_zero, elemsC, Int.reduceToNat, Nat.reducePow, i2, iO, i20, i21, i22, g1, hln]) | (simp (disch := (first | omega | (simp only [AL, List.length_map]; omega))) only [AR, AL, ifT, ifF, take_all, List.length_cons, List.length_nil, Int.reduceToNat, Int.reducePow, Nat.reducePow, i2, iO, i20, i21, i22, g1, hln]) | (refine wk_intro (by kernel_rfl) ?_) | (refine vp_draw (id := 10) (l := []) (by kernel_rfl) ?_))
          exact ⟨⟨i + 1, rfl, by omega, hor⟩, by omega⟩
    · rw [if_neg hany]
      have hall : ∀ i, i < dg.length → dg.getD i 0 ≤ 256 := by
        intro i hi
        have := fun h => hany (any_of_getD (fun d => decide (256 < d)) dg (0 : Int) hi h)
        have h3 : ¬ 256 < dg.getD i 0 := fun h => this (decide_eq_true h)
        omega
      clear hany
      refine Go.Ev.Fn.intro (fn := Tryz.f17) (body := (Tryz.f17).body.get!) (by kernel_rfl) (by kernel_rfl) (by kernel_rfl) (fun _ => rfl) (Nat.le_of_ble_eq_true (by kernel_rfl)) ?_; unfold Tryz.f17; simp only [Option.get!_some]
      repeat (first | (simp only [go_sem, Nat.reduceEqDiff, Nat.reduceAdd, Nat.reduceSub, Nat.reduceMul, Nat.reduceLeDiff, Nat.reduceLT, reduceIte, reduceCtorEq, Nat.succ_ne_zero, elemsC, Int.reduceToNat, Nat.reducePow]) | (simp (disch := (first | omega | (simp only [AL, List.length_map]; omega))) only [AR, AL, ifT, ifF, take_all, List.length_cons, List.length_nil, Int.reduceToNat, Int.reducePow, Nat.reducePow]) | (refine wk_intro (by kernel_rfl) ?_) | (refine vp_draw (id := 10) (l := []) (by kernel_rfl) ?_) | (refine vf_of (by first | exact h') ?_))
      refine vp_loop_inv (fun s => s.tmp 1 = .ptr 1 0 0 ∧ s.obj 1 0 = some [.int .i64 kind, .sl X xs, .sl Y ys, .sl tn tc, .bool sm, natV nm, natV dm, .bool ss, natV ns, natV ds, .int .i64 k, .int .i64 n] ∧ s.tmp 2 = .ptr 2 0 0 ∧ s.obj 2 0 = some [.bool false, .sl 0 [], .sl 0 []] ∧ s.tmp 5 = .ptr 5 0 0 ∧ s.obj 5 0 = some (rvC q) ∧ s.tmp 6 = .sv (.sl dg.length cs) ∧ s.tmp 20 = .sv (.sl dg.length cs) ∧ s.tmp 21 = .sv (.int .i64 (dg.length : Int)) ∧
          ∃ i : Nat, s.tmp 22 = .sv (.int .i64 (i : Int)) ∧ i ≤ dg.length)
        (fun s => match s.tmp 22 with | .sv (.int _ i) => dg.length - i.toNat | _ => 0) ⟨rfl, rfl, rfl, rfl, rfl, rfl, rfl, rfl, rfl, 0, rfl, by omega⟩ ?_
      rintro s2 ⟨i1, oA, i2, iO, i5, oB, i6, i20, i21, i, i22, hi⟩
      by_cases hend : i = dg.length
      · subst hend
        clear hall hat
        by_cases hk : kind = 1 ∨ kind = 6 ∨ kind = 7
        · rw [decide_eq_true hk] at hc
          by_cases hq : 128 < q
          · rw [if_pos ⟨hk, hq⟩]
            rw [decide_eq_true hq] at e2
            clear hk hq
            repeat (first | (simp only [go_sem, Nat.reduceEqDiff, Nat.reduceAdd, Nat.reduceSub, Nat.reduceMul, Nat.reduceLeDiff, Nat.reduceLT, reduceIte, reduceCtorEq, Nat.succ_ne_zero, elemsC, Int.reduceToNat, Nat.reducePow, i1, oA, i2, iO, i5, oB, i6, i20, i21, i22, rvC, e2]) | (simp (disch := (first | omega | (simp only [AL, List.length_map]; omega))) only [AR, AL, ifT, ifF, take_all, List.length_cons, List.length_nil, Int.reduceToNat, Int.reducePow, Nat.reducePow, i1, oA, i2, iO, i5, oB, i6, i20, i21, i22, rvC, e2]) | (refine wk_intro (by kernel_rfl) ?_) | (refine vp_draw (id := 10) (l := []) (by kernel_rfl) ?_) | (refine vf_of (by first | exact hc | exact r1 | exact h2 | exact r0) ?_))
            rfl
          · rw [if_neg (fun h => hq h.2)]
            rw [decide_eq_false hq] at e2
            clear hk hq
            repeat (first | (simp only [go_sem, Nat.reduceEqDiff, Nat.reduceAdd, Nat.reduceSub, Nat.reduceMul, Nat.reduceLeDiff, Nat.reduceLT, reduceIte, reduceCtorEq, Nat.succ_ne_zero, elemsC, Int.reduceToNat, Nat.reducePow, i1, oA, i2, iO, i5, oB, i6, i20, i21, i22, rvC, e2]) | (simp (disch := (first | omega | (simp only [AL, List.length_map]; omega))) only [AR, AL, ifT, ifF, take_all, List.length_cons, List.length_nil, Int.reduceToNat, Int.reducePow, Nat.reducePow, i1, oA, i2, iO, i5, oB, i6, i20, i21, i22, rvC, e2]) | (refine wk_intro (by kernel_rfl) ?_) | (refine vp_draw (id := 10) (l := []) (by kernel_rfl) ?_) | (refine vf_of (by first | exact hc | exact r1 | exact h2) ?_))
            rw [hcs]
        · rw [if_neg (fun h => hk h.1)]
          rw [decide_eq_false hk] at hc
          clear hk
          repeat (first | (simp only [go_sem, Nat.reduceEqDiff, Nat.reduceAdd, Nat.reduceSub, Nat.reduceMul, Nat.reduceLeDiff, Nat.reduceLT, reduceIte, reduceCtorEq, Nat.succ_ne_zero, elemsC, Int.reduceToNat, Nat.reducePow, i1, oA, i2, iO, i5, oB, i6, i20, i21, i22, rvC]) | (simp (disch := (first | omega | (simp only [AL, List.length_map]; omega))) only [AR, AL, ifT, ifF, take_all, List.length_cons, List.length_nil, Int.reduceToNat, Int.reducePow, Nat.reducePow, i1, oA, i2, iO, i5, oB, i6, i20, i21, i22, rvC]) | (refine wk_intro (by kernel_rfl) ?_) | (refine vp_draw (id := 10) (l := []) (by kernel_rfl) ?_) | (refine vf_of (by first | exact hc) ?_))
          rw [hcs]
      · have g1 := hat (i := i) (by omega)
        have g2 := hall i (by omega)
        generalize dg.getD i 0 = d at *
        clear hat hall
        repeat (first | (simp only [go_sem, Nat.reduceEqDiff, Nat.reduceAdd, Nat.reduceSub, Nat.reduceMul, Nat.reduceLeDiff, Nat.reduceLT, reduceIte, reduceCtorEq, Nat.succ_ne_zero, elemsC, Int.reduceToNat, Nat.reducePow, i1, oA, i2, iO, i5, oB, i6, i20, i21, i22, g1, hln]) | (simp (disch := (first | omega | (simp only [AL, List.length_map]; omega))) only [AR, AL, ifT, ifF, take_all, List.length_cons, List.length_nil, Int.reduceToNat, Int.reducePow, Nat.reducePow, i1, oA, i2, iO, i5, oB, i6, i20, i21, i22, g1, hln]) | (refine wk_intro (by kernel_rfl) ?_) | (refine vp_draw (id := 10) (l := []) (by kernel_rfl) ?_))
        exact ⟨⟨i + 1, rfl, by omega⟩, by omega⟩
  · rw [if_pos he]
    have h' : Go.Ev.Fn CX 33 [testV kind (.sl X xs) (.sl Y ys) (.sl tn tc) sm nm dm ss ns ds k n] (.tup [rv q, .sl dg.length (dg.map fun i => SV.int .i64 i), .int .i64 e]) := h
    clear h hz
    refine Go.Ev.Fn.intro (fn := Tryz.f17) (body := (Tryz.f17).body.get!) (by kernel_rfl) (by kernel_rfl) (by kernel_rfl) (fun _ => rfl) (Nat.le_of_ble_eq_true (by kernel_rfl)) ?_; unfold Tryz.f17; simp only [Option.get!_some]
    repeat (first | (simp only [go_sem, Nat.reduceEqDiff, Nat.reduceAdd, Nat.reduceSub, Nat.reduceMul, Nat.reduceLeDiff, Nat.reduceLT, reduceIte, reduceCtorEq, Nat.succ_ne_zero, elemsC, Int.reduceToNat, Nat.reducePow]) | (simp (disch := (first | omega | (simp only [AL, List.length_map]; omega))) only [AR, AL, ifT, ifF, take_all, List.length_cons, List.length_nil, Int.reduceToNat, Int.reducePow, Nat.reducePow]) | (refine wk_intro (by kernel_rfl) ?_) | (refine vp_draw (id := 10) (l := []) (by kernel_rfl) ?_) | (refine vf_of (by first | exact h' | exact r0) ?_))
    rfl
end
end Go.Proofs.YtodiciendlhkgaaGreat

/- vernierlaw19: TestMoves, TestPairs, TestTurns, in the evaluator. -/
namespace Go.Proofs.YtodiciendlhkgaaGreat
set_option linter.unusedSimpArgs false
set_option linter.unusedVariables false
set_option maxRecDepth 8000
open Go.Ev
theorem sz_stu {l : List Rat} {mu : Rat} (h : ∀ x ∈ l, szR x 10) (hm : szR mu 10) (hl : l.length ≤ 12) : szR (stuR l mu).1 1000000 := by
  unfold stuR
  by_cases c1 : l.length < 2
  · rw [if_pos c1]; exact szR_zero (by omega)
  rw [if_neg c1]
  by_cases c2 : varR l = 0
  · rw [if_pos c2]; exact szR_zero (by omega)
  rw [if_neg c2]
  have zd := szR_sub (sz_mean (by omega) h hl) hm (by omega)
  exact szR_mono (szR_div (szR_mul (int_szR (n := (l.length : Int)) (by omega)) (szR_mul zd zd (by omega)) (by omega)) (sz_var (by omega) h hl) (by omega) (by omega)) (by omega)
theorem sz_pool {l m : List Rat} (h : ∀ x ∈ l, szR x 10) (h2 : ∀ x ∈ m, szR x 10) (hl : l.length ≤ 12) (hm : m.length ≤ 12) : szR (poolR l m).1 1000000 := by
  unfold poolR
  split
  · exact szR_zero (by omega)
  split
  · exact szR_zero (by omega)
  have zd := szR_sub (sz_mean (by omega) h hl) (sz_mean (by omega) h2 hm) (by omega)
  have hlm := Nat.mul_le_mul hl hm
  have elm : (l.length : Int) * (m.length : Int) = ((l.length * m.length : Nat) : Int) := (Int.natCast_mul _ _).symm
  have zv := szR_div (M := 2) (szR_add (sz_sq (by omega) h hl) (sz_sq (by omega) h2 hm) (by omega)) (int_szR (n := (l.length : Int) + (m.length : Int) - 2) (by omega)) (by omega) (by omega)
  have zw := szR_div (M := 2) (int_szR (n := (l.length : Int) + (m.length : Int)) (by omega)) (int_szR (n := (l.length : Int) * (m.length : Int)) (by rw [elm]; omega)) (by omega) (by omega)
  exact szR_mono (szR_div (szR_mul zd zd (by omega)) (szR_mul zv zw (by omega)) (by omega) (by omega)) (by omega)
theorem sz_fis {l m : List Rat} (h : ∀ x ∈ l, szR x 10) (h2 : ∀ x ∈ m, szR x 10) (hl : l.length ≤ 12) (hm : m.length ≤ 12) : szR (fisR l m).1 1000000 := by
  unfold fisR
  split
  · exact szR_zero (by omega)
  split
  · exact szR_zero (by omega)
  exact szR_mono (szR_div (sz_var (by omega) h hl) (sz_var (by omega) h2 hm) (by omega) (by omega)) (by omega)
theorem statR_stu {kind : Int} {l : List Rat} {mu : Rat} (hl : l.length ≤ 12) (hk : kind = 2 ∨ kind = 3) : statR kind (stuR l mu) = stuR l mu := by
  unfold stuR
  by_cases c1 : l.length < 2
  · rw [if_pos c1]; rfl
  rw [if_neg c1]
  by_cases c2 : varR l = 0
  · rw [if_pos c2]; rfl
  rw [if_neg c2]
  unfold statR
  simp only
  rw [if_neg (by simp), if_neg (by simp; omega), if_neg (fun h => by omega)]
theorem statR_pool {l m : List Rat} (hl : l.length ≤ 12) (hm : m.length ≤ 12) : statR 4 (poolR l m) = poolR l m := by
  unfold poolR
  split
  · rfl
  split
  · rfl
  unfold statR
  simp only
  rw [if_neg (by simp), if_neg (by simp; omega), if_neg (fun h => by omega)]
theorem statR_fis {l m : List Rat} (hl : l.length ≤ 12) (hm : m.length ≤ 12) : statR 5 (fisR l m) = fisR l m := by
  unfold fisR
  split
  · rfl
  split
  · rfl
  unfold statR
  simp only
  rw [if_neg (by simp), if_neg (by simp; omega), if_neg (fun h => by omega)]
theorem deg_stu {l : List Rat} {mu : Rat} : (stuR l mu).2.1.length ≤ 1000 := by
  unfold stuR
  split
  · simp
  split <;> simp
theorem deg_pool {l m : List Rat} : (poolR l m).2.1.length ≤ 1000 := by
  unfold poolR
  split
  · simp
  split <;> simp
theorem deg_fis {l m : List Rat} : (fisR l m).2.1.length ≤ 1000 := by
  unfold fisR
  split
  · simp
  split <;> simp
theorem row_sz10 {l : List Rat} {cs : List SV} (h : RowC cs l 1) : ∀ x ∈ l, szR x 10 := fun x hx => szR_mono (row_sz (by omega) h x hx) (by omega)
/-- A row's test is told. -/
theorem stat_T {xs : List SV} {l : List Rat} {M : Nat} {sm : Bool} {nm dm : List Nat} {mu : Rat} (h : RowC xs l M) (hM : 1 ≤ M) (hM2 : M ≤ 10) (hm : RatA (ratV sm nm dm) mu 10) (hl : l.length ≤ 12) :
    Go.Ev.Fn CX 17 [testV 2 (.sl l.length xs) (.sl 0 []) (.sl 0 []) sm nm dm false [] [] 0 0] (resV (stuR l mu)) := by
  have h1 := raw_T (Y := 0) (ys := []) (tn := 0) (tc := []) (ss := false) (ns := []) (ds := []) (k := 0) (n := 0) h hM (by omega) hm (by omega) (by omega) hl (by omega)
  have h2 := test_Statistic h1 (sz_stu (fun x hx => szR_mono (row_sz hM h x hx) hM2) (szR_of hm (by omega)) hl) deg_stu
  rw [statR_stu hl (.inl rfl)] at h2
  exact h2
theorem stat_paired {xs ys : List SV} {l m : List Rat} (h : RowC xs l 1) (h2 : RowC ys m 1) (hl : l.length ≤ 12) (hm : m.length = l.length) :
    Go.Ev.Fn CX 17 [testV 3 (.sl l.length xs) (.sl m.length ys) (.sl 0 []) false [] [] false [] [] 0 0] (resV (stuR (List.zipWith (fun a b => a - b) l m) 0)) := by
  have h1 := raw_paired (tn := 0) (tc := []) (sm := false) (nm := []) (dm := []) (ss := false) (ns := []) (ds := []) (k := 0) (n := 0) h h2 hl (by omega)
  rw [if_neg (by omega)] at h1
  have hz : ∀ x ∈ List.zipWith (fun a b => a - b) l m, szR x 10 := by
    intro x hx
    obtain ⟨i, hi, rfl⟩ := List.getElem_of_mem hx
    rw [List.getElem_zipWith]
    exact szR_mono (szR_sub (row_sz (by omega) h _ (List.getElem_mem _)) (row_sz (by omega) h2 _ (List.getElem_mem _)) (by omega)) (by omega)
  have h3 := test_Statistic h1 (sz_stu hz (szR_zero (by omega)) (by rw [List.length_zipWith]; omega)) deg_stu
  rw [statR_stu (by rw [List.length_zipWith]; omega) (.inr rfl)] at h3
  exact h3
theorem stat_pooled {xs ys : List SV} {l m : List Rat} (h : RowC xs l 1) (h2 : RowC ys m 1) (hl : l.length ≤ 12) (hm : m.length ≤ 12) :
    Go.Ev.Fn CX 17 [testV 4 (.sl l.length xs) (.sl m.length ys) (.sl 0 []) false [] [] false [] [] 0 0] (resV (poolR l m)) := by
  have h1 := raw_pooled (tn := 0) (tc := []) (sm := false) (nm := []) (dm := []) (ss := false) (ns := []) (ds := []) (k := 0) (n := 0) h h2 hl hm
  have h3 := test_Statistic h1 (sz_pool (row_sz10 h) (row_sz10 h2) hl hm) deg_pool
  rw [statR_pool hl hm] at h3
  exact h3
theorem stat_fisher {xs ys : List SV} {l m : List Rat} (h : RowC xs l 1) (h2 : RowC ys m 1) (hl : l.length ≤ 12) (hm : m.length ≤ 12) :
    Go.Ev.Fn CX 17 [testV 5 (.sl l.length xs) (.sl m.length ys) (.sl 0 []) false [] [] false [] [] 0 0] (resV (fisR l m)) := by
  have h1 := raw_fisher (tn := 0) (tc := []) (sm := false) (nm := []) (dm := []) (ss := false) (ns := []) (ds := []) (k := 0) (n := 0) h h2 hl hm
  have h3 := test_Statistic h1 (sz_fis (row_sz10 h) (row_sz10 h2) hl hm) deg_fis
  rw [statR_fis hl hm] at h3
  exact h3
theorem stu_known : stuR [((1 : Int) : Rat), ((2 : Int) : Rat), ((3 : Int) : Rat)] 0 = (((12 : Int) : Rat), [2], 0) := by decide +kernel
theorem law19_known : Go.Ev.Fn CX 19 [] (.bool true) := by
  have i1 := ref2_Int 1 (by omega)
  have i2 := ref2_Int 2 (by omega)
  have i3 := ref2_Int 3 (by omega)
  have i12 := ref2_Int 12 (by omega)
  have hr : RowC (rvsC [((1 : Int) : Rat), ((2 : Int) : Rat), ((3 : Int) : Rat)]) [((1 : Int) : Rat), ((2 : Int) : Rat), ((3 : Int) : Rat)] 2 := rvsC_row _ (by
    intro x hx
    simp only [List.mem_cons, List.not_mem_nil, or_false] at hx
    rcases hx with rfl | rfl | rfl <;> exact int_szR (by omega))
  have s1 := stat_T (M := 2) (sm := false) (nm := []) (dm := []) (mu := 0) hr (by omega) (by omega) ⟨_, _, _, rfl, okL_nil, okL_nil, by simp, by simp, rfl⟩ (by simp)
  rw [stu_known] at s1
  have n1 := law19_numbers [2] [2] (by simp) (by simp)
  rw [decide_eq_true rfl] at n1
  have e1 := ref2_Same (RatA_rv (int_szR (n := 12) (by omega))) (RatA_rv (int_szR (n := 12) (by omega))) (by omega) (by omega) (by omega)
  rw [decide_eq_true rfl] at e1
  clear hr
  refine Go.Ev.Fn.intro (fn := Tryz.f19) (body := (Tryz.f19).body.get!) (by kernel_rfl) (by kernel_rfl) (by kernel_rfl) (fun _ => rfl) (Nat.le_of_ble_eq_true (by kernel_rfl)) ?_; unfold Tryz.f19; simp only [Option.get!_some]
  repeat (first | (simp only [go_sem, Nat.reduceEqDiff, Nat.reduceAdd, Nat.reduceSub, Nat.reduceMul, Nat.reduceLeDiff, Nat.reduceLT, reduceIte, reduceCtorEq, Nat.succ_ne_zero, elemsC, Int.reduceToNat, Nat.reducePow]) | (simp (disch := (first | omega | (simp only [AL, List.length_map]; omega))) only [AR, AL, ifT, ifF, take_all, List.length_cons, List.length_nil, Int.reduceToNat, Int.reducePow, Nat.reducePow]) | (refine wk_intro (by kernel_rfl) ?_) | (refine vp_draw (id := 2) (l := [2, 18]) (by kernel_rfl) ?_) | (refine vf_of (by first | exact i1 | exact i2 | exact i3 | exact s1 | exact n1 | exact i12 | exact e1) ?_))
end Go.Proofs.YtodiciendlhkgaaGreat

/- vernierlaw19.TestOrder, in the evaluator. -/
namespace Go.Proofs.YtodiciendlhkgaaGreat
set_option linter.unusedSimpArgs false
set_option linter.unusedVariables false
set_option maxRecDepth 8000
open Go.Ev
set_option linter.unusedVariables false
theorem sq_split (m : Rat) : ∀ l : List Rat, sumR ((l.map fun x => x - m).map fun x => x * x) = sumR (l.map fun x => x * x) - 2 * m * sumR l + lenR l * (m * m)
  | [] => by
    show sumR [] = sumR [] - 2 * m * sumR [] + 0 * (m * m)
    rw [sumR_nil]; grind
  | x :: l => by
    have ih := sq_split m l
    rw [List.map_cons, List.map_cons, List.map_cons, sumR_cons, sumR_cons, sumR_cons, lenR_cons, ih]
    grind
theorem sqR_alt {l : List Rat} (h : l ≠ []) : sqR l = sumR (l.map fun x => x * x) - lenR l * (meanR l * meanR l) := by
  unfold sqR offR
  rw [sq_split]
  have e := div_cancel' (x := sumR l) (lenR_ne h)
  have : meanR l * lenR l = sumR l := e
  rw [← this]
  generalize meanR l = m at *
  grind
theorem sqs_nn : ∀ l : List Rat, 0 ≤ sumR (l.map fun x => x * x)
  | [] => by rw [List.map_nil, sumR_nil]; exact Rat.le_refl
  | x :: l => by
    rw [List.map_cons, sumR_cons]
    have a := sqs_nn l
    have b := mul_self_nn x
    grind
section
variable {l : List Rat} {mu nu : Rat}
/-- The statistic's first part. -/
abbrev stS (l : List Rat) (mu : Rat) : Rat := lenR l * ((meanR l - mu) * (meanR l - mu)) / varR l
theorem var_sz (h : ∀ x ∈ l, szR x 1) (hl : l.length ≤ 12) (h2 : 2 ≤ l.length) : szR (varR l) 96 := by
  have hn : l ≠ [] := by rintro rfl; simp at h2
  unfold varR
  rw [sqR_alt hn]
  have z1 := sz_sum12 (l := l.map fun x => x * x) (L := 2) (by omega) (sz_map h fun x hx => szR_mul hx hx (by omega)) (by rw [List.length_map]; exact hl)
  have z2 := sz_mean (by omega) h hl
  have z3 := szR_mul (int_szR (n := (l.length : Int)) (by omega)) (szR_mul z2 z2 (by omega)) (by omega)
  exact szR_mono (szR_div (szR_sub z1 z3 (by omega)) (int_szR (n := (l.length : Int) - 1) (by omega)) (by omega) (by omega)) (by omega)
theorem var_nn (h2 : 2 ≤ l.length) : 0 ≤ varR l := by
  unfold varR sqR
  have a := sqs_nn (offR l)
  have b : (0 : Rat) < (((l.length : Int) - 1 : Int) : Rat) := Rat.intCast_pos.2 (by omega)
  rw [Rat.div_def]
  exact Rat.mul_nonneg a (inv_nn b)
theorem sts_sz (h : ∀ x ∈ l, szR x 1) (hm : szR mu 1) (hl : l.length ≤ 12) (h2 : 2 ≤ l.length) : szR (stS l mu) 156 := by
  have z2 := szR_sub (sz_mean (by omega) h hl) hm (by omega)
  have z3 := szR_mul (int_szR (n := (l.length : Int)) (by omega)) (szR_mul z2 z2 (by omega)) (by omega)
  exact szR_mono (szR_div z3 (var_sz h hl h2) (by omega) (by omega)) (by omega)
theorem sts_nn (h2 : 2 ≤ l.length) : 0 ≤ stS l mu := by
  unfold stS
  rw [Rat.div_def]
  have a : (0 : Rat) ≤ lenR l := Rat.le_of_lt (Rat.intCast_pos.2 (by omega))
  refine Rat.mul_nonneg (Rat.mul_nonneg a (mul_self_nn _)) ?_
  have v := var_nn h2
  by_cases e : varR l = 0
  · rw [e]; decide +kernel
  · exact inv_nn (by grind)
/-- Where a statistic's chance is looked up. -/
def stY (n : Int) (s : Rat) : Rat := (n : Rat) / ((n : Rat) + s)
theorem stY_sz {n : Int} {s : Rat} (hn : 1 ≤ n ∧ n ≤ 256) (hs : szR s 156) : szR (stY n s) 161 := by
  have i := int_szR (n := n) (by omega)
  exact szR_mono (szR_div i (szR_add i hs (by omega)) (by omega) (by omega)) (by omega)
theorem stY_at {n : Int} {s : Rat} (hn : 1 ≤ n) (hs : 0 ≤ s) : 0 < stY n s ∧ stY n s * ((n : Rat) + s) = (n : Rat) ∧ (s = 0 → stY n s = 1) ∧ (0 < s → stY n s < 1) := by
  have p : (0 : Rat) < (n : Rat) := Rat.intCast_pos.2 (by omega)
  have q : (0 : Rat) < (n : Rat) + s := by grind
  have e : stY n s * ((n : Rat) + s) = (n : Rat) := Rat.div_mul_cancel (by grind)
  have i := Rat.mul_pos p (Rat.inv_pos.2 q)
  rw [← Rat.div_def] at i
  have i' : 0 < stY n s := i
  generalize stY n s = y at *
  refine ⟨i', e, fun h => ?_, fun h => ?_⟩
  · subst h
    rw [Rat.add_zero] at e
    have : (n : Rat) * (n : Rat)⁻¹ = 1 := Rat.mul_inv_cancel _ (by grind)
    have t : y * (n : Rat) * (n : Rat)⁻¹ = (n : Rat) * (n : Rat)⁻¹ := by rw [e]
    rw [Rat.mul_assoc, this] at t
    grind
  · have m := Rat.mul_pos i' h
    rcases Rat.le_total (a := 1) (b := y) with g | g
    · have := Rat.mul_le_mul_of_nonneg_right g (Rat.le_of_lt p)
      exact absurd e (by grind)
    · by_cases h1 : y = 1
      · subst h1; exact absurd e (by grind)
      · grind
theorem stY_anti {n : Int} {s r : Rat} (hn : 1 ≤ n) (hs : 0 ≤ s) (h : s ≤ r) : stY n r ≤ stY n s := by
  obtain ⟨a1, a2, -, -⟩ := stY_at hn hs
  obtain ⟨b1, b2, -, -⟩ := stY_at (s := r) hn (by grind)
  have p : (0 : Rat) < (n : Rat) := Rat.intCast_pos.2 (by omega)
  have q : (0 : Rat) < (n : Rat) + s := by grind
  refine le_by q ?_
  rw [a2]
  have m := Rat.mul_le_mul_of_nonneg_left h (Rat.le_of_lt b1)
  have e : stY n r * ((n : Rat) + s) = stY n r * ((n : Rat) + r) - (stY n r * r - stY n r * s) := by grind
  rw [e, b2]
  generalize stY n r * r = u at *
  generalize stY n r * s = w at *
  clear e a2 b2
  grind
/-- A ball of the share up to 1. -/
def BallT (a b p : Nat) (y l h : Rat) : Prop := (y = 1 ∧ l = 1 ∧ h = 1) ∨ (0 < y ∧ y < 1 ∧ BallS a b p y l h)
theorem ballT_le {a b p : Nat} {y l h : Rat} (g : BallT a b p y l h) : l ≤ h := by
  rcases g with ⟨-, rfl, rfl⟩ | ⟨-, -, g⟩
  · exact Rat.le_refl
  · exact ball_le g
theorem ballT_mono {a b p : Nat} {x y l h l' h' : Rat} (ha : 1 ≤ a) (ha2 : a ≤ 20) (hb : 1 ≤ b) (hb2 : b ≤ 20) (hp : p ≤ 60) (hxy : x ≤ y) (g : BallT a b p x l h) (g' : BallT a b p y l' h') : l ≤ h' := by
  rcases g with ⟨e, rfl, rfl⟩ | ⟨e1, e2, g⟩ <;> rcases g' with ⟨e', rfl, rfl⟩ | ⟨e1', e2', g'⟩
  · exact Rat.le_refl
  · rw [e] at hxy; exact absurd hxy (by grind)
  · exact (ball_01 ha ha2 hb hb2 hp e1 e2 g).2
  · exact ball_mono ha ha2 hb hb2 hp e1 hxy e2' g g'
theorem st_ball {n p : Nat} {s : Rat} (hn : 1 ≤ n ∧ n ≤ 20) (hp : p ≤ 60) (hs : 0 ≤ s) (zs : szR s 156) :
    ∃ l h : Rat, Go.Ev.Fn CX 41 [.int .i64 (n : Int), .int .i64 1, rv (stY (n : Int) s), .int .i64 (p : Int)] (.tup [ballR l h, .bool true]) ∧ szR l 200 ∧ szR h 200 ∧ BallT n 1 p (stY (n : Int) s) l h := by
  have zy := stY_sz (n := (n : Int)) (by omega) zs
  obtain ⟨a1, a2, a3, a4⟩ := stY_at (n := (n : Int)) (by omega) hs
  by_cases e : s = 0
  · have e1 := a3 e
    rw [e1]
    have o : szR 1 1 := ⟨lim_len_lt (by decide +kernel), lim_len_lt (by decide +kernel)⟩
    exact ⟨1, 1, incb_I_ends (RatA_rv o) (by omega) (by omega) (by omega) (by omega) (.inr rfl), szR_mono o (by omega), szR_mono o (by omega), .inl ⟨rfl, rfl, rfl⟩⟩
  · have e2 := a4 (by grind)
    obtain ⟨l, h, f, z1, z2, g⟩ := incb_ball (a := n) (b := 1) (p := p) (RatA_rv zy) (by omega) (by omega) (by omega) (by omega) (by omega) (by omega) hp a1 e2
    exact ⟨l, h, f, z1, z2, .inr ⟨a1, e2, g⟩⟩
end
theorem ref4_SideGe {a b c d : Rat} {L M : Nat} (ha : szR a L) (hb : szR b L) (hc : szR c M) (hd : szR d M) (hL1 : 1 ≤ L) (hM1 : 1 ≤ M) (hL : L + M ≤ 100000) (h1 : c ≤ b) : ∃ n : Int, 0 ≤ n ∧ n ≤ 1 ∧ Go.Ev.Fn CX 11 [ballR a b, ballR c d] (.int .i64 n) := by
  by_cases h2 : a ≤ d
  · exact ⟨0, by omega, by omega, ref4_Side0 ha hb hc hd hL1 hM1 hL h1 h2⟩
  · refine ⟨1, by omega, by omega, ?_⟩
    have c1 := ref2_Cmp (RatA_rv hb) (RatA_rv hc) hL1 hM1 (by omega)
    have c2 := ref2_Cmp (RatA_rv ha) (RatA_rv hd) hL1 hM1 (by omega)
    have e1 : decide (cmpR b c < 0) = false := by rw [cmpR_lt]; exact decide_eq_false (by grind)
    have e2 : decide (cmpR a d > 0) = true := by rw [cmpR_gt]; exact decide_eq_true (by grind)
    generalize cmpR b c = z1 at *
    generalize cmpR a d = z2 at *
    refine Go.Ev.Fn.intro (fn := Tryz.f11) (body := (Tryz.f11).body.get!) (by kernel_rfl) (by kernel_rfl) (by kernel_rfl) (fun _ => rfl) (Nat.le_of_ble_eq_true (by kernel_rfl)) ?_; unfold Tryz.f11; simp only [Option.get!_some]
    repeat (first | (simp only [go_sem, Nat.reduceEqDiff, Nat.reduceAdd, Nat.reduceSub, Nat.reduceMul, Nat.reduceLeDiff, Nat.reduceLT, reduceIte, reduceCtorEq, Nat.succ_ne_zero, elemsC, Int.reduceToNat, Nat.reducePow, e1, e2]) | (simp (disch := (first | omega | (simp only [AL, List.length_map]; omega))) only [AR, AL, ifT, ifF, take_all, List.length_cons, List.length_nil, Int.reduceToNat, Int.reducePow, Nat.reducePow, e1, e2]) | (refine wk_intro (by kernel_rfl) ?_) | (refine vf_of (by first | exact c1 | exact c2) ?_))
section
variable {X : Nat} {xs : List SV} {sm sn : Bool} {nm dm nn dn : List Nat} {s l h mu nu : Rat}
/-- A test of a mean. -/
abbrev tT (X : Nat) (xs : List SV) (sm : Bool) (nm dm : List Nat) : SV := testV 2 (.sl X xs) (.sl 0 []) (.sl 0 []) sm nm dm false [] [] 0 0
set_option maxHeartbeats 2000000 in
theorem P_T {d p : Nat} (hd : 1 ≤ d ∧ d ≤ 256) (hp : p ≤ 200) (zs : szR s 156) (st : Go.Ev.Fn CX 17 [tT X xs sm nm dm] (.tup [rv s, .sl 1 [.int .i64 (d : Int)], .int .i64 0]))
    (f : Go.Ev.Fn CX 41 [.int .i64 (d : Int), .int .i64 1, rv (stY (d : Int) s), .int .i64 (p : Int)] (.tup [ballR l h, .bool true])) :
    Go.Ev.Fn CX 18 [tT X xs sm nm dm, .int .i64 (p : Int)] (.tup [ballR l h, .int .i64 0]) := by
  have c := test_isChi 2
  rw [decide_eq_false (by omega)] at c
  have i := int_szR (n := (d : Int)) (by omega)
  have rn := rat_Int (d : Int) (by omega)
  have ad := rat_Add (RatA_rv i) (RatA_rv zs) (by omega) (by omega) (by omega)
  have ov := test_over (RatA_rv i) (RatA_rv (szR_add i zs (by omega))) (by omega) (by omega) (by omega)
  have x1 : (if (0 : Int) > (p : Int) then (0 : Int) else (p : Int)) = (p : Int) := if_neg (by omega)
  have x2 : (if (200 : Int) < (p : Int) then (200 : Int) else (p : Int)) = (p : Int) := if_neg (by omega)
  unfold stY at f
  clear zs i
  generalize ((d : Int) : Rat) / (((d : Int) : Rat) + s) = y at *
  generalize ((d : Int) : Rat) + s = y2 at *
  refine Go.Ev.Fn.intro (fn := Tryz.f18) (body := (Tryz.f18).body.get!) (by kernel_rfl) (by kernel_rfl) (by kernel_rfl) (fun _ => rfl) (Nat.le_of_ble_eq_true (by kernel_rfl)) ?_; unfold Tryz.f18; simp only [Option.get!_some]
  repeat (first | (simp only [go_sem, Nat.reduceEqDiff, Nat.reduceAdd, Nat.reduceSub, Nat.reduceMul, Nat.reduceLeDiff, Nat.reduceLT, reduceIte, reduceCtorEq, Nat.succ_ne_zero, elemsC, Int.reduceToNat, Nat.reducePow, x1, x2]) | (simp (disch := (first | omega | (simp only [AL, List.length_map]; omega))) only [AR, AL, ifT, ifF, take_all, List.length_cons, List.length_nil, Int.reduceToNat, Int.reducePow, Nat.reducePow, x1, x2]) | (refine wk_intro (by kernel_rfl) ?_) | (refine vp_draw (id := 9) (l := []) (by kernel_rfl) ?_) | (refine vp_draw (id := 11) (l := []) (by kernel_rfl) ?_) | (refine vp_draw (id := 14) (l := []) (by kernel_rfl) ?_) | (refine vf_of (by first | exact st | exact c | exact rn | exact ad | exact ov | exact f) ?_))
/-- A ball of nothing. -/
abbrev ballZ : SV := .agg [.bool false, .sl 0 [], .sl 0 [], .bool false, .sl 0 [], .sl 0 []]
theorem P_err {p : Int} (st : Go.Ev.Fn CX 17 [tT X xs sm nm dm] (.tup [rv 0, .sl 0 [], .int .i64 5])) :
    Go.Ev.Fn CX 18 [tT X xs sm nm dm, .int .i64 p] (.tup [ballZ, .int .i64 5]) := by
  refine Go.Ev.Fn.intro (fn := Tryz.f18) (body := (Tryz.f18).body.get!) (by kernel_rfl) (by kernel_rfl) (by kernel_rfl) (fun _ => rfl) (Nat.le_of_ble_eq_true (by kernel_rfl)) ?_; unfold Tryz.f18; simp only [Option.get!_some]
  repeat (first | (simp only [go_sem, Nat.reduceEqDiff, Nat.reduceAdd, Nat.reduceSub, Nat.reduceMul, Nat.reduceLeDiff, Nat.reduceLT, reduceIte, reduceCtorEq, Nat.succ_ne_zero, elemsC, Int.reduceToNat, Nat.reducePow]) | (simp (disch := (first | omega | (simp only [AL, List.length_map]; omega))) only [AR, AL, ifT, ifF, take_all, List.length_cons, List.length_nil, Int.reduceToNat, Int.reducePow, Nat.reducePow]) | (refine wk_intro (by kernel_rfl) ?_) | (refine vp_draw (id := 9) (l := []) (by kernel_rfl) ?_) | (refine vp_draw (id := 11) (l := []) (by kernel_rfl) ?_) | (refine vp_draw (id := 14) (l := []) (by kernel_rfl) ?_) | (refine vf_of (by first | exact st) ?_))
set_option maxHeartbeats 2000000 in
theorem order_out {c : Bool} {p : Int} (hmuch : Go.Ev.Fn CX 16 [.sl 2 [.sl X xs, .sl 2 [.bool sm, natV nm, natV dm, .bool sn, natV nn, natV dn]]] (.bool c)) (hp : -9223372036854775808 ≤ p ∧ p < 9223372036854775808) (h : c = true ∨ p < 0 ∨ 50 < p) :
    Go.Ev.Fn CX 5 [.sl X xs, ratV sm nm dm, ratV sn nn dn, .int .i64 p] (.bool true) := by
  cases c
  · by_cases g : p < 0
    · refine Go.Ev.Fn.intro (fn := Tryz.f5) (body := (Tryz.f5).body.get!) (by kernel_rfl) (by kernel_rfl) (by kernel_rfl) (fun _ => rfl) (Nat.le_of_ble_eq_true (by kernel_rfl)) ?_; unfold Tryz.f5; simp only [Option.get!_some]
      repeat (first | (simp only [go_sem, Nat.reduceEqDiff, Nat.reduceAdd, Nat.reduceSub, Nat.reduceMul, Nat.reduceLeDiff, Nat.reduceLT, reduceIte, reduceCtorEq, Nat.succ_ne_zero, elemsC, Int.reduceToNat, Nat.reducePow]) | (simp (disch := (first | omega | (simp only [AL, List.length_map]; omega))) only [AR, AL, ifT, ifF, take_all, List.length_cons, List.length_nil, Int.reduceToNat, Int.reducePow, Nat.reducePow]) | (refine wk_intro (by kernel_rfl) ?_) | (refine vf_of (by first | exact hmuch) ?_))
    · have g2 : 50 < p := by rcases h with h | h | h; (cases h); omega; omega
      refine Go.Ev.Fn.intro (fn := Tryz.f5) (body := (Tryz.f5).body.get!) (by kernel_rfl) (by kernel_rfl) (by kernel_rfl) (fun _ => rfl) (Nat.le_of_ble_eq_true (by kernel_rfl)) ?_; unfold Tryz.f5; simp only [Option.get!_some]
      repeat (first | (simp only [go_sem, Nat.reduceEqDiff, Nat.reduceAdd, Nat.reduceSub, Nat.reduceMul, Nat.reduceLeDiff, Nat.reduceLT, reduceIte, reduceCtorEq, Nat.succ_ne_zero, elemsC, Int.reduceToNat, Nat.reducePow]) | (simp (disch := (first | omega | (simp only [AL, List.length_map]; omega))) only [AR, AL, ifT, ifF, take_all, List.length_cons, List.length_nil, Int.reduceToNat, Int.reducePow, Nat.reducePow]) | (refine wk_intro (by kernel_rfl) ?_) | (refine vf_of (by first | exact hmuch) ?_))
  · clear h
    refine Go.Ev.Fn.intro (fn := Tryz.f5) (body := (Tryz.f5).body.get!) (by kernel_rfl) (by kernel_rfl) (by kernel_rfl) (fun _ => rfl) (Nat.le_of_ble_eq_true (by kernel_rfl)) ?_; unfold Tryz.f5; simp only [Option.get!_some]
    repeat (first | (simp only [go_sem, Nat.reduceEqDiff, Nat.reduceAdd, Nat.reduceSub, Nat.reduceMul, Nat.reduceLeDiff, Nat.reduceLT, reduceIte, reduceCtorEq, Nat.succ_ne_zero, elemsC, Int.reduceToNat, Nat.reducePow]) | (simp (disch := (first | omega | (simp only [AL, List.length_map]; omega))) only [AR, AL, ifT, ifF, take_all, List.length_cons, List.length_nil, Int.reduceToNat, Int.reducePow, Nat.reducePow]) | (refine wk_intro (by kernel_rfl) ?_) | (refine vf_of (by first | exact hmuch) ?_))
set_option maxHeartbeats 2000000 in
theorem order_err {p : Int} (hmuch : Go.Ev.Fn CX 16 [.sl 2 [.sl X xs, .sl 2 [.bool sm, natV nm, natV dm, .bool sn, natV nn, natV dn]]] (.bool false)) (hp : 0 ≤ p ∧ p ≤ 50)
    (s1 : Go.Ev.Fn CX 17 [tT X xs sm nm dm] (.tup [rv 0, .sl 0 [], .int .i64 5])) (s2 : Go.Ev.Fn CX 17 [tT X xs sn nn dn] (.tup [rv 0, .sl 0 [], .int .i64 5])) :
    Go.Ev.Fn CX 5 [.sl X xs, ratV sm nm dm, ratV sn nn dn, .int .i64 p] (.bool true) := by
  have p1 := P_err (p := p) s1
  have p2 := P_err (p := p) s2
  refine Go.Ev.Fn.intro (fn := Tryz.f5) (body := (Tryz.f5).body.get!) (by kernel_rfl) (by kernel_rfl) (by kernel_rfl) (fun _ => rfl) (Nat.le_of_ble_eq_true (by kernel_rfl)) ?_; unfold Tryz.f5; simp only [Option.get!_some]
  repeat (first | (simp only [go_sem, Nat.reduceEqDiff, Nat.reduceAdd, Nat.reduceSub, Nat.reduceMul, Nat.reduceLeDiff, Nat.reduceLT, reduceIte, reduceCtorEq, Nat.succ_ne_zero, elemsC, Int.reduceToNat, Nat.reducePow]) | (simp (disch := (first | omega | (simp only [AL, List.length_map]; omega))) only [AR, AL, ifT, ifF, take_all, List.length_cons, List.length_nil, Int.reduceToNat, Int.reducePow, Nat.reducePow]) | (refine wk_intro (by kernel_rfl) ?_) | (refine vf_of (by first | exact hmuch | exact s1 | exact s2 | exact p1 | exact p2 | exact law19_known) ?_))
set_option maxHeartbeats 2000000 in
theorem order_in {p : Int} {d : Int} {s r l1 h1 l2 h2 : Rat} (hmuch : Go.Ev.Fn CX 16 [.sl 2 [.sl X xs, .sl 2 [.bool sm, natV nm, natV dm, .bool sn, natV nn, natV dn]]] (.bool false)) (hp : 0 ≤ p ∧ p ≤ 50)
    (zs : szR s 156) (zr : szR r 156)
    (s1 : Go.Ev.Fn CX 17 [tT X xs sm nm dm] (.tup [rv s, .sl 1 [.int .i64 d], .int .i64 0])) (s2 : Go.Ev.Fn CX 17 [tT X xs sn nn dn] (.tup [rv r, .sl 1 [.int .i64 d], .int .i64 0]))
    (p1 : Go.Ev.Fn CX 18 [tT X xs sm nm dm, .int .i64 p] (.tup [ballR l1 h1, .int .i64 0])) (p2 : Go.Ev.Fn CX 18 [tT X xs sn nn dn, .int .i64 p] (.tup [ballR l2 h2, .int .i64 0]))
    (z1 : szR l1 200) (z2 : szR h1 200) (z3 : szR l2 200) (z4 : szR h2 200) (g1 : s ≤ r → l2 ≤ h1) (g2 : r ≤ s → l1 ≤ h2) :
    Go.Ev.Fn CX 5 [.sl X xs, ratV sm nm dm, ratV sn nn dn, .int .i64 p] (.bool true) := by
  have cm := ref2_Cmp (RatA_rv zs) (RatA_rv zr) (by omega) (by omega) (by omega)
  have e1 : decide (cmpR s r < 0) = decide (s < r) := cmpR_lt
  have e2 : decide (cmpR s r > 0) = decide (r < s) := cmpR_gt
  generalize cmpR s r = z at *
  clear zs zr
  by_cases k1 : s < r
  · rw [decide_eq_true k1] at e1
    rw [decide_eq_false (show ¬ r < s by grind)] at e2
    obtain ⟨n, n1, n2, sd⟩ := ref4_SideGe z1 z2 z3 z4 (by omega) (by omega) (by omega) (g1 (Rat.le_of_lt k1))
    clear g1 g2 z1 z2 z3 z4 k1
    refine Go.Ev.Fn.intro (fn := Tryz.f5) (body := (Tryz.f5).body.get!) (by kernel_rfl) (by kernel_rfl) (by kernel_rfl) (fun _ => rfl) (Nat.le_of_ble_eq_true (by kernel_rfl)) ?_; unfold Tryz.f5; simp only [Option.get!_some]
    repeat (first | (simp only [go_sem, Nat.reduceEqDiff, Nat.reduceAdd, Nat.reduceSub, Nat.reduceMul, Nat.reduceLeDiff, Nat.reduceLT, reduceIte, reduceCtorEq, Nat.succ_ne_zero, elemsC, Int.reduceToNat, Nat.reducePow, e1, e2]) | (simp (disch := (first | omega | (simp only [AL, List.length_map]; omega))) only [AR, AL, ifT, ifF, take_all, List.length_cons, List.length_nil, Int.reduceToNat, Int.reducePow, Nat.reducePow, e1, e2]) | (refine wk_intro (by kernel_rfl) ?_) | (refine vf_of (by first | exact hmuch | exact s1 | exact s2 | exact p1 | exact p2 | exact cm | exact sd | exact law19_known) ?_))
  · rw [decide_eq_false k1] at e1
    by_cases k2 : r < s
    · rw [decide_eq_true k2] at e2
      obtain ⟨n, n1, n2, sd⟩ := ref4_SideLe z1 z2 z3 z4 (by omega) (by omega) (by omega) (g2 (Rat.le_of_lt k2))
      clear g1 g2 z1 z2 z3 z4 k1 k2
      refine Go.Ev.Fn.intro (fn := Tryz.f5) (body := (Tryz.f5).body.get!) (by kernel_rfl) (by kernel_rfl) (by kernel_rfl) (fun _ => rfl) (Nat.le_of_ble_eq_true (by kernel_rfl)) ?_; unfold Tryz.f5; simp only [Option.get!_some]
      repeat (first | (simp only [go_sem, Nat.reduceEqDiff, Nat.reduceAdd, Nat.reduceSub, Nat.reduceMul, Nat.reduceLeDiff, Nat.reduceLT, reduceIte, reduceCtorEq, Nat.succ_ne_zero, elemsC, Int.reduceToNat, Nat.reducePow, e1, e2]) | (simp (disch := (first | omega | (simp only [AL, List.length_map]; omega))) only [AR, AL, ifT, ifF, take_all, List.length_cons, List.length_nil, Int.reduceToNat, Int.reducePow, Nat.reducePow, e1, e2]) | (refine wk_intro (by kernel_rfl) ?_) | (refine vf_of (by first | exact hmuch | exact s1 | exact s2 | exact p1 | exact p2 | exact cm | exact sd | exact law19_known) ?_))
    · rw [decide_eq_false k2] at e2
      have sd := ref4_Side0 z1 z2 z3 z4 (by omega) (by omega) (by omega) (g1 (Rat.not_lt.1 k2)) (g2 (Rat.not_lt.1 k1))
      clear g1 g2 z1 z2 z3 z4 k1 k2
      refine Go.Ev.Fn.intro (fn := Tryz.f5) (body := (Tryz.f5).body.get!) (by kernel_rfl) (by kernel_rfl) (by kernel_rfl) (fun _ => rfl) (Nat.le_of_ble_eq_true (by kernel_rfl)) ?_; unfold Tryz.f5; simp only [Option.get!_some]
      repeat (first | (simp only [go_sem, Nat.reduceEqDiff, Nat.reduceAdd, Nat.reduceSub, Nat.reduceMul, Nat.reduceLeDiff, Nat.reduceLT, reduceIte, reduceCtorEq, Nat.succ_ne_zero, elemsC, Int.reduceToNat, Nat.reducePow, e1, e2]) | (simp (disch := (first | omega | (simp only [AL, List.length_map]; omega))) only [AR, AL, ifT, ifF, take_all, List.length_cons, List.length_nil, Int.reduceToNat, Int.reducePow, Nat.reducePow, e1, e2]) | (refine wk_intro (by kernel_rfl) ?_) | (refine vf_of (by first | exact hmuch | exact s1 | exact s2 | exact p1 | exact p2 | exact cm | exact sd | exact law19_known) ?_))
theorem order_main {l : List Rat} {P : Nat} (hmuch : Go.Ev.Fn CX 16 [.sl 2 [.sl l.length xs, .sl 2 [.bool sm, natV nm, natV dm, .bool sn, natV nn, natV dn]]] (.bool false)) (hR : RowC xs l 1) (hl : l.length ≤ 12) (hM : RatA (ratV sm nm dm) mu 1) (hN : RatA (ratV sn nn dn) nu 1) (hp : P ≤ 50) :
    Go.Ev.Fn CX 5 [.sl l.length xs, ratV sm nm dm, ratV sn nn dn, .int .i64 (P : Int)] (.bool true) := by
  have s1 := stat_T hR (by omega) (by omega) (RatA_mono hM (by omega)) hl
  have s2 := stat_T hR (by omega) (by omega) (RatA_mono hN (by omega)) hl
  unfold stuR at s1 s2
  by_cases c1 : l.length < 2
  · rw [if_pos c1] at s1 s2
    exact order_err hmuch (by omega) s1 s2
  rw [if_neg c1] at s1 s2
  by_cases c2 : varR l = 0
  · rw [if_pos c2] at s1 s2
    exact order_err hmuch (by omega) s1 s2
  rw [if_neg c2] at s1 s2
  have hz := row_sz (by omega) hR
  have za := sts_sz hz (szR_of hM (by omega)) hl (by omega)
  have zb := sts_sz hz (szR_of hN (by omega)) hl (by omega)
  have na := sts_nn (l := l) (mu := mu) (by omega)
  have nb := sts_nn (l := l) (mu := nu) (by omega)
  obtain ⟨n, hn⟩ : ∃ n : Nat, (l.length : Int) - 1 = (n : Int) := ⟨l.length - 1, by omega⟩
  obtain ⟨l1, h1, f1, w1, w2, b1⟩ := st_ball (n := n) (p := P) (by omega) (by omega) na za
  obtain ⟨l2, h2, f2, w3, w4, b2⟩ := st_ball (n := n) (p := P) (by omega) (by omega) nb zb
  have s1' : Go.Ev.Fn CX 17 [tT l.length xs sm nm dm] (.tup [rv (stS l mu), .sl 1 [.int .i64 (n : Int)], .int .i64 0]) := by rw [← hn]; exact s1
  have s2' : Go.Ev.Fn CX 17 [tT l.length xs sn nn dn] (.tup [rv (stS l nu), .sl 1 [.int .i64 (n : Int)], .int .i64 0]) := by rw [← hn]; exact s2
  clear s1 s2
  have p1 := P_T (by omega) (by omega) za s1' f1
  have p2 := P_T (by omega) (by omega) zb s2' f2
  generalize stS l mu = s at *
  generalize stS l nu = r at *
  exact order_in hmuch (by omega) za zb s1' s2' p1 p2 w1 w2 w3 w4 (fun k => ballT_mono (by omega) (by omega) (by omega) (by omega) (by omega) (stY_anti (by omega) na k) b2 b1) (fun k => ballT_mono (by omega) (by omega) (by omega) (by omega) (by omega) (stY_anti (by omega) nb k) b1 b2)
end
theorem test_order (x : SV) (shx : ShpT Tryz.prog 7 43 [x]) (ss1 : List SV) (sh1 : ShpT Tryz.prog 6 24 ss1) (ss2 : List SV) (sh2 : ShpT Tryz.prog 6 24 ss2) (p : Int) (w3 : (Lit.int .i64 p).wf = true) :
    Go.Ev.Fn CX 5 [x, .agg ss1, .agg ss2, .int .i64 p] (.bool true) := by
  obtain ⟨ps, e, hp, hok⟩ := shp_rats (n := 3) shx
  obtain ⟨sm, nm, dm, rfl, h1, h2, -, -⟩ := shp_rat (n := 3) sh1
  obtain ⟨sa, na, da, rfl, h3, h4, -, -⟩ := shp_rat (n := 3) sh2
  have r3 := wf_int64k w3
  injection e with e
  subst e
  clear shx sh1 sh2
  have hmuch := law19_much (rows := [ps, [(sm, nm, dm), (sa, na, da)]]) (by simp) (by
    intro q hq
    simp only [List.mem_cons, List.not_mem_nil, or_false] at hq
    rcases hq with rfl | rfl
    · exact Nat.le_trans hp (by decide)
    · simp)
  rw [show [ps, [(sm, nm, dm), (sa, na, da)]].any bigR = (bigR ps || bigR [(sm, nm, dm), (sa, na, da)]) by simp [List.any_cons]] at hmuch
  have hmuch' : Go.Ev.Fn CX 16 [.sl 2 [.sl ps.length (ratsC ps), .sl 2 [.bool sm, natV nm, natV dm, .bool sa, natV na, natV da]]] (.bool (bigR ps || bigR [(sm, nm, dm), (sa, na, da)])) := hmuch
  clear hmuch
  by_cases hb : (bigR ps || bigR [(sm, nm, dm), (sa, na, da)]) = true
  · exact order_out hmuch' r3 (.inl hb)
  · by_cases g : p < 0 ∨ 50 < p
    · exact order_out hmuch' r3 (.inr g)
    have hb := Bool.eq_false_iff.2 hb
    rw [Bool.or_eq_false_iff] at hb
    obtain ⟨hR, hl⟩ := bigR_row hb.1 hok
    have h3s := (bigR_small hb.2).2
    have hM : RatA (ratV sm nm dm) (InR.q (sm, nm, dm)) 1 := ⟨_, _, _, rfl, h1, h2, (h3s (sm, nm, dm) (by simp)).1, (h3s (sm, nm, dm) (by simp)).2, rfl⟩
    have hA : RatA (ratV sa na da) (InR.q (sa, na, da)) 1 := ⟨_, _, _, rfl, h3, h4, (h3s (sa, na, da) (by simp)).1, (h3s (sa, na, da) (by simp)).2, rfl⟩
    rw [hb.1, hb.2, Bool.or_false] at hmuch'
    have hlen : (ps.map InR.q).length = ps.length := List.length_map _
    rw [show rowV ps = .sl (ps.map InR.q).length (ratsC ps) by rw [hlen]]
    rw [← hlen] at hmuch'
    obtain ⟨P, rfl⟩ : ∃ P : Nat, p = (P : Int) := ⟨p.toNat, by omega⟩
    exact order_main hmuch' hR (by rw [hlen]; exact hl) hM hA (by omega)
end Go.Proofs.YtodiciendlhkgaaGreat
