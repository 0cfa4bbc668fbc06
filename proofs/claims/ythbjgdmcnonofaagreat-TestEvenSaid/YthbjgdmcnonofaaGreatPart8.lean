/- Part 8 of the proof: the evaluator, contracts of functions and their plain laws (joined by program). No condition. -/
import Derived.Test.YthbjgdmcnonofaaGreatPart7
/- Tables: sums of rows and columns, what would be in a table: plain mathematics; what a table reads as. No program. -/
namespace Go.Proofs.YthbjgdmcnonofaaGreat
open Go.Ev
/-- A table, row by row. -/
def TabC : List SV → List (List Rat) → Nat → Prop
  | cs, [], _ => cs = []
  | cs, r :: t, L => ∃ rc rest, cs = .sl r.length rc :: rest ∧ RowC rc r L ∧ TabC rest t L
theorem tab_len {L : Nat} : ∀ {t : List (List Rat)} {cs : List SV}, TabC cs t L → cs.length = t.length
  | [], _, h => by cases h; rfl
  | r :: t, cs, h => by
    obtain ⟨rc, rest, rfl, -, h2⟩ := h
    rw [List.length_cons, tab_len h2, List.length_cons]
theorem tabC_at {L : Nat} : ∀ {t : List (List Rat)} {cs : List SV} {i : Nat}, TabC cs t L → i < t.length → ∃ rc, (cs.drop i).head? = some (.sl (t.getD i []).length rc) ∧ RowC rc (t.getD i []) L
  | [], _, _, _, hi => by simp at hi
  | r :: t, cs, 0, h, _ => by
    obtain ⟨rc, rest, rfl, h1, h2⟩ := h
    exact ⟨rc, rfl, h1⟩
  | r :: t, cs, i + 1, h, hi => by
    obtain ⟨rc, rest, rfl, h1, h2⟩ := h
    exact tabC_at (i := i) h2 (by simpa using hi)
/-- A table of normal numbers, cell by cell. -/
def tabsC (t : List (List Rat)) : List SV := t.map fun r => SV.sl r.length (rvsC r)
theorem tabsC_len (t : List (List Rat)) : (tabsC t).length = t.length := List.length_map _
theorem tabsC_snoc (t : List (List Rat)) (r : List Rat) : tabsC (t ++ [r]) = tabsC t ++ [.sl r.length (rvsC r)] := by
  unfold tabsC; rw [List.map_append]; rfl
theorem tabsC_tab {L : Nat} : ∀ t : List (List Rat), (∀ r ∈ t, ∀ x ∈ r, szR x L) → TabC (tabsC t) t L
  | [], _ => rfl
  | r :: t, h => ⟨_, _, rfl, rvsC_row r (h r List.mem_cons_self), tabsC_tab t fun x hx => h x (List.mem_cons_of_mem _ hx)⟩
/-- A number is laid into a row. -/
theorem row_set' {L : Nat} : ∀ {l : List Rat} {cs : List SV} {k : Nat} {s : Bool} {n d : List Nat} {q : Rat}, RowC cs l L → RatA (ratV s n d) q L → k < l.length → RowC (splice cs (k * 3) [.bool s, natV n, natV d]) (l.set k q) L
  | [], _, _, _, _, _, _, _, _, hk => by simp at hk
  | p :: l, cs, 0, s, n, d, q, h, h1, _ => by
    obtain ⟨s', n', d', rest, rfl, h2, h3⟩ := h
    exact ⟨s, n, d, rest, rfl, h1, h3⟩
  | p :: l, cs, k + 1, s, n, d, q, h, h1, hk => by
    obtain ⟨s', n', d', rest, rfl, h2, h3⟩ := h
    refine ⟨s', n', d', splice rest (k * 3) [.bool s, natV n, natV d], ?_, h2, row_set' h3 h1 (by simpa using hk)⟩
    unfold splice
    rw [show (k + 1) * 3 = k * 3 + 3 by omega]
    show _ ++ _ ++ List.drop (k * 3 + 3 + 3) _ = _
    rfl
theorem row_zero {L : Nat} (hL : 1 ≤ L) : ∀ n, RowC ((List.replicate n [SV.bool false, .sl 0 [], .sl 0 []]).flatten) (List.replicate n 0) L
  | 0 => rfl
  | n + 1 => ⟨false, [], [], _, rfl, ⟨false, [], [], rfl, okL_nil, okL_nil, by simp, by simp, rfl⟩, row_zero hL n⟩
/-- A column's sum, so far. -/
def colS (t : List (List Rat)) (i k : Nat) : Rat := sumR ((t.take i).map fun r => r.getD k 0)
theorem colS_zero (t : List (List Rat)) (k : Nat) : colS t 0 k = 0 := rfl
theorem colS_step (t : List (List Rat)) {i : Nat} (k : Nat) (h : i < t.length) : colS t (i + 1) k = colS t i k + (t.getD i []).getD k 0 := by
  unfold colS
  have e : t.take (i + 1) = t.take i ++ [t.getD i []] := by
    rw [List.take_add_one, List.getD_eq_getElem?_getD, List.getElem?_eq_getElem h]
    rfl
  rw [e, List.map_append]
  exact sumR_snoc _ _
/-- The sums of columns so far: the first k of them have row i, too. -/
def colsR (t : List (List Rat)) (w i k : Nat) : List Rat := (List.range w).map fun j => colS t (if j < k then i + 1 else i) j
/-- The sums of the first i rows, and nothing. -/
def rowsS (t : List (List Rat)) (i : Nat) : List Rat := (List.range t.length).map fun j => if j < i then sumR (t.getD j []) else 0
theorem colsR_len (t : List (List Rat)) (w i k : Nat) : (colsR t w i k).length = w := by simp [colsR]
theorem rowsS_len (t : List (List Rat)) (i : Nat) : (rowsS t i).length = t.length := by simp [rowsS]
theorem range_set {α : Type} (f g : Nat → α) (n k : Nat) (v : α) (h : ∀ j, j < n → g j = if j = k then v else f j) : ((List.range n).map f).set k v = (List.range n).map g := by
  refine List.ext_getElem (by simp) fun j h1 h2 => ?_
  have hj : j < n := by simpa using h2
  rw [List.getElem_set, List.getElem_map, List.getElem_map, List.getElem_range, h j hj]
  by_cases e : k = j
  · rw [if_pos e, if_pos e.symm]
  · rw [if_neg e, if_neg (fun x => e x.symm)]
theorem colsR_set (t : List (List Rat)) (w i k : Nat) (h : k < w) : (colsR t w i k).set k (colS t (i + 1) k) = colsR t w i (k + 1) := by
  refine range_set _ _ _ _ _ fun j hj => ?_
  by_cases e : j = k
  · subst e; rw [if_pos (by omega), if_pos rfl]
  · rw [if_neg e]
    by_cases h2 : j < k
    · rw [if_pos h2, if_pos (by omega)]
    · rw [if_neg h2, if_neg (by omega)]
theorem rowsS_set (t : List (List Rat)) (i : Nat) : (rowsS t i).set i (sumR (t.getD i [])) = rowsS t (i + 1) := by
  refine range_set _ _ _ _ _ fun j hj => ?_
  by_cases e : j = i
  · subst e; rw [if_pos (by omega), if_pos rfl]
  · rw [if_neg e]
    by_cases h2 : j < i
    · rw [if_pos h2, if_pos (by omega)]
    · rw [if_neg h2, if_neg (by omega)]
theorem colsR_next (t : List (List Rat)) (w i : Nat) : colsR t w i w = colsR t w (i + 1) 0 := by
  refine List.map_congr_left fun j hj => ?_
  rw [if_pos (List.mem_range.1 hj), if_neg (by omega)]
theorem colsR_zero (t : List (List Rat)) (w : Nat) : colsR t w 0 0 = List.replicate w 0 := by
  unfold colsR
  refine List.ext_getElem (by simp) fun j h1 h2 => ?_
  rw [List.getElem_map, List.getElem_replicate, if_neg (by omega)]
  rfl
theorem rowsS_zero (t : List (List Rat)) : rowsS t 0 = List.replicate t.length 0 := by
  unfold rowsS
  refine List.ext_getElem (by simp) fun j h1 h2 => ?_
  rw [List.getElem_map, List.getElem_replicate, if_neg (by omega)]
theorem colsR_at (t : List (List Rat)) {w i k : Nat} (h : k < w) : (colsR t w i k).getD k 0 = colS t i k := by
  unfold colsR
  rw [List.getD_eq_getElem?_getD, List.getElem?_map, List.getElem?_range h]
  show colS t (if k < k then i + 1 else i) k = _
  rw [if_neg (by omega)]
/-- A table's rows' sums; its columns'. -/
def rowR (t : List (List Rat)) : List Rat := t.map sumR
def colR (t : List (List Rat)) : List Rat := (List.range (t.getD 0 []).length).map fun k => colS t t.length k
theorem rowsS_all (t : List (List Rat)) : rowsS t t.length = rowR t := by
  unfold rowsS rowR
  refine List.ext_getElem (by simp) fun j h1 h2 => ?_
  have hj : j < t.length := by simpa using h2
  rw [List.getElem_map, List.getElem_map, List.getElem_range, if_pos hj, List.getD_eq_getElem?_getD, List.getElem?_eq_getElem hj]
  rfl
theorem colsR_all (t : List (List Rat)) {w : Nat} (hw : w = (t.getD 0 []).length) : colsR t w t.length 0 = colR t := by
  subst hw
  refine List.map_congr_left fun j _ => ?_
  rw [if_neg (by omega)]
/-- May a table be? The error. -/
def tabE (t : List (List Rat)) : Int :=
  if t.length < 2 ∨ (t.getD 0 []).length < 2 then 1 else
  if t.any (fun r => decide (r.length ≠ (t.getD 0 []).length)) = true then 1 else
  if t.any (fun r => r.any fun x => decide (x < 0)) = true then 4 else 0
/-- What would be in a table; the error. -/
def expR (t : List (List Rat)) : List (List Rat) × Int :=
  if tabE t ≠ 0 then ([], tabE t) else
  if (rowR t ++ colR t).any (fun x => decide (x = 0)) = true then ([], 5) else
  ((rowR t).map fun x => (colR t).map fun y => x * y / sumR (rowR t), 0)
end Go.Proofs.YthbjgdmcnonofaaGreat

/- vernierlaw19: much, numbers, in the evaluator. -/
namespace Go.Proofs.YthbjgdmcnonofaaGreat
set_option linter.unusedSimpArgs false
set_option linter.unusedVariables false
set_option maxRecDepth 8000
open Go.Ev
def noR : InR := (false, [], [])
theorem ratsC_at : ∀ {ps : List InR} {k : Nat}, k < ps.length → ∃ rest, (ratsC ps).drop (k * 3) = .bool (ps.getD k noR).1 :: natV (ps.getD k noR).2.1 :: natV (ps.getD k noR).2.2 :: rest
  | [], _, h => by simp at h
  | p :: ps, 0, _ => ⟨_, rfl⟩
  | p :: ps, k + 1, h => by
    obtain ⟨r, this⟩ := ratsC_at (ps := ps) (k := k) (by simpa using h)
    refine ⟨r, ?_⟩
    rw [ratsC_cons]
    have e : ∀ j, (SV.bool p.1 :: natV p.2.1 :: natV p.2.2 :: ratsC ps).drop (j + 3) = (ratsC ps).drop j := fun _ => rfl
    rw [show (k + 1) * 3 = k * 3 + 3 by omega, e, this]
    rfl
/-- Is a number more than is looked at? -/
def bigN (p : InR) : Bool := decide (1 < p.2.1.length) || decide (1 < p.2.2.length)
/-- Is a row? -/
def bigR (ps : List InR) : Bool := decide (12 < ps.length) || ps.any bigN
theorem any_take {α : Type} (f : α → Bool) (l : List α) (d : α) {i : Nat} (h : i < l.length) : (l.take (i + 1)).any f = ((l.take i).any f || f (l.getD i d)) := by
  rw [List.take_add_one, List.any_append, List.getElem?_eq_getElem h, List.getD_eq_getElem?_getD, List.getElem?_eq_getElem h]
  simp
theorem any_of_getD {α : Type} (f : α → Bool) (l : List α) (d : α) {i : Nat} (h : i < l.length) (hf : f (l.getD i d) = true) : l.any f = true := by
  refine List.any_eq_true.2 ⟨l.getD i d, ?_, hf⟩
  rw [List.getD_eq_getElem?_getD, List.getElem?_eq_getElem h]
  exact List.getElem_mem h
theorem tab_at {rows : List (List InR)} {i : Nat} (h : i < rows.length) : ((rows.map rowV).drop i).head? = some (.sl (rows.getD i []).length (ratsC (rows.getD i []))) := by
  rw [List.head?_drop, List.getElem?_map, List.getD_eq_getElem?_getD, List.getElem?_eq_getElem h]
  rfl
theorem bigR_small {ps : List InR} (h : bigR ps = false) : ps.length ≤ 12 ∧ ∀ p ∈ ps, p.2.1.length ≤ 1 ∧ p.2.2.length ≤ 1 := by
  unfold bigR at h
  rw [Bool.or_eq_false_iff] at h
  refine ⟨by have := of_decide_eq_false h.1; omega, fun p hp => ?_⟩
  have h2 := List.any_eq_false.1 h.2 p hp
  unfold bigN at h2
  have h3 : (decide (1 < p.2.1.length) || decide (1 < p.2.2.length)) = false := by simpa using h2
  rw [Bool.or_eq_false_iff] at h3
  have h4 := of_decide_eq_false h3.1
  have h5 := of_decide_eq_false h3.2
  omega
theorem bigR_row {ps : List InR} (h : bigR ps = false) (hok : ∀ p ∈ ps, p.ok) : RowC (ratsC ps) (ps.map InR.q) 1 ∧ ps.length ≤ 12 := by
  obtain ⟨h1, h2⟩ := bigR_small h
  exact ⟨ratsC_row ps fun p hp => ⟨hok p hp, h2 p hp⟩, h1⟩
/-- A row of whole numbers. -/
abbrev intsV (a : List Int) : SV := .sl a.length (a.map fun i => .int .i64 i)
theorem ints_at (a : List Int) {i : Nat} (h : i < a.length) : ((a.map fun i => SV.int .i64 i).drop i).head? = some (.int .i64 (a.getD i 0)) := by
  rw [List.head?_drop, List.getElem?_map, List.getD_eq_getElem?_getD, List.getElem?_eq_getElem h]
  rfl
theorem law19_numbers (a b : List Int) (ha : a.length ≤ 1000) (hb : b.length ≤ 1000) : Go.Ev.Fn CX 26 [intsV a, intsV b] (.bool (decide (a = b))) := by
  have ga := fun {i : Nat} (h : i < a.length) => ints_at a h
  have gb := fun {i : Nat} (h : i < b.length) => ints_at b h
  have la : (a.map fun i => SV.int .i64 i).length = a.length := List.length_map _
  have lb : (b.map fun i => SV.int .i64 i).length = b.length := List.length_map _
  show Go.Ev.Fn CX 26 [.sl a.length (a.map fun i => SV.int .i64 i), .sl b.length (b.map fun i => SV.int .i64 i)] _
  generalize (a.map fun i => SV.int .i64 i) = ca at *
  generalize (b.map fun i => SV.int .i64 i) = cb at *
  refine Go.Ev.Fn.intro (fn := Tryz.f26) (body := (Tryz.f26).body.get!) (by kernel_rfl) (by kernel_rfl) (by kernel_rfl) (fun _ => rfl) (Nat.le_of_ble_eq_true (by kernel_rfl)) ?_; unfold Tryz.f26; simp only [Option.get!_some]
  by_cases hl : a.length = b.length
  · repeat (first | (simp only [go_sem, Nat.reduceEqDiff, Nat.reduceAdd, Nat.reduceSub, Nat.reduceMul, Nat.reduceLeDiff, Nat.reduceLT, reduceIte, reduceCtorEq, Nat.succ_ne_zero, elemsC, Int.reduceToNat, Nat.reducePow]) | (simp (disch := (first | omega | (simp only [AL, List.length_map]; omega))) only [AR, AL, ifT, ifF, take_all, List.length_cons, List.length_nil, Int.reduceToNat, Int.reducePow, Nat.reducePow]) | (refine wk_intro (by kernel_rfl) ?_) | (refine vp_draw (id := 6) (l := []) (by kernel_rfl) ?_))
    refine vp_loop_inv (fun s => s.tmp 0 = .sv (.sl a.length ca) ∧ s.tmp 1 = .sv (.sl b.length cb) ∧ ∃ i : Nat, s.tmp 5 = .sv (.int .i64 i) ∧ i ≤ a.length ∧ a.take i = b.take i) (fun s => match s.tmp 5 with | .sv (.int _ i) => a.length - i.toNat | _ => 0) ⟨rfl, rfl, 0, rfl, by omega, rfl⟩ ?_
    rintro s ⟨i0, i1, i, i5, hi, ht⟩
    by_cases hend : i = a.length
    · subst hend
      rw [List.take_length, hl, List.take_length] at ht
      rw [decide_eq_true ht]
      repeat (first | (simp only [go_sem, Nat.reduceEqDiff, Nat.reduceAdd, Nat.reduceSub, Nat.reduceMul, Nat.reduceLeDiff, Nat.reduceLT, reduceIte, reduceCtorEq, Nat.succ_ne_zero, elemsC, Int.reduceToNat, Nat.reducePow, i0, i1, i5]) | (simp (disch := (first | omega | (simp only [AL, List.length_map]; omega))) only [AR, AL, ifT, ifF, take_all, List.length_cons, List.length_nil, Int.reduceToNat, Int.reducePow, Nat.reducePow, i0, i1, i5]) | (refine wk_intro (by kernel_rfl) ?_) | (refine vp_draw (id := 6) (l := []) (by kernel_rfl) ?_))
    · have e : ∀ c : List Int, i < c.length → c.take (i + 1) = c.take i ++ [c.getD i 0] := by
        intro c hc
        rw [List.take_add_one, List.getD_eq_getElem?_getD, List.getElem?_eq_getElem hc]
        rfl
      have h1 := ga (i := i) (by omega)
      have h2 := gb (i := i) (by omega)
      clear ga gb
      by_cases hx : a.getD i 0 = b.getD i 0
      · have hne : (a.getD i 0 != b.getD i 0) = false := by rw [hx]; exact bne_self_eq_false _
        have ht2 : a.take (i + 1) = b.take (i + 1) := by rw [e a (by omega), e b (by omega), ht, hx]
        clear e
        repeat (first | (simp only [go_sem, Nat.reduceEqDiff, Nat.reduceAdd, Nat.reduceSub, Nat.reduceMul, Nat.reduceLeDiff, Nat.reduceLT, reduceIte, reduceCtorEq, Nat.succ_ne_zero, elemsC, Int.reduceToNat, Nat.reducePow, i0, i1, i5, h1, h2, la, lb, hne]) | (simp (disch := (first | omega | (simp only [AL, List.length_map]; omega))) only [AR, AL, ifT, ifF, take_all, List.length_cons, List.length_nil, Int.reduceToNat, Int.reducePow, Nat.reducePow, i0, i1, i5, h1, h2, la, lb, hne]) | (refine wk_intro (by kernel_rfl) ?_) | (refine vp_draw (id := 6) (l := []) (by kernel_rfl) ?_))
        exact ⟨⟨i + 1, rfl, by omega, ht2⟩, by omega⟩
      · have hne : (a.getD i 0 != b.getD i 0) = true := bne_iff_ne.2 hx
        rw [decide_eq_false (fun h => hx (by rw [h]))]
        clear e
        repeat (first | (simp only [go_sem, Nat.reduceEqDiff, Nat.reduceAdd, Nat.reduceSub, Nat.reduceMul, Nat.reduceLeDiff, Nat.reduceLT, reduceIte, reduceCtorEq, Nat.succ_ne_zero, elemsC, Int.reduceToNat, Nat.reducePow, i0, i1, i5, h1, h2, la, lb, hne]) | (simp (disch := (first | omega | (simp only [AL, List.length_map]; omega))) only [AR, AL, ifT, ifF, take_all, List.length_cons, List.length_nil, Int.reduceToNat, Int.reducePow, Nat.reducePow, i0, i1, i5, h1, h2, la, lb, hne]) | (refine wk_intro (by kernel_rfl) ?_) | (refine vp_draw (id := 6) (l := []) (by kernel_rfl) ?_))
  · rw [decide_eq_false (fun h => hl (by rw [h]))]
    clear ga gb
    repeat (first | (simp only [go_sem, Nat.reduceEqDiff, Nat.reduceAdd, Nat.reduceSub, Nat.reduceMul, Nat.reduceLeDiff, Nat.reduceLT, reduceIte, reduceCtorEq, Nat.succ_ne_zero, elemsC, Int.reduceToNat, Nat.reducePow]) | (simp (disch := (first | omega | (simp only [AL, List.length_map]; omega))) only [AR, AL, ifT, ifF, take_all, List.length_cons, List.length_nil, Int.reduceToNat, Int.reducePow, Nat.reducePow]) | (refine wk_intro (by kernel_rfl) ?_) | (refine vp_draw (id := 6) (l := []) (by kernel_rfl) ?_))
end Go.Proofs.YthbjgdmcnonofaaGreat

/- test.isBelow, isTable; vernierref19.zero, by, rows, in the evaluator. -/
namespace Go.Proofs.YthbjgdmcnonofaaGreat
set_option linter.unusedSimpArgs false
set_option linter.unusedVariables false
set_option maxRecDepth 8000
open Go.Ev
theorem test_isBelow {v : SV} {q : Rat} {L : Nat} (hv : RatA v q L) (hL : 1 ≤ L) (h : L ≤ 1000000) : Go.Ev.Fn CX 182 [v] (.bool (decide (q < 0))) := by
  have r0 := rat_Int 0 (by omega)
  have c := rat_Cmp hv (RatA_rv (int_szR (n := 0) (by omega))) hL (by omega) (by omega)
  have e : decide (cmpR q ((0 : Int) : Rat) < 0) = decide (q < 0) := cmpR_lt
  obtain ⟨s, n, d, rfl, -⟩ := hv
  refine Go.Ev.Fn.intro (fn := Tryz.f182) (body := (Tryz.f182).body.get!) (by kernel_rfl) (by kernel_rfl) (by kernel_rfl) (fun _ => rfl) (Nat.le_of_ble_eq_true (by kernel_rfl)) ?_; unfold Tryz.f182; simp only [Option.get!_some]
  repeat (first | (simp only [go_sem, Nat.reduceEqDiff, Nat.reduceAdd, Nat.reduceSub, Nat.reduceMul, Nat.reduceLeDiff, Nat.reduceLT, reduceIte, reduceCtorEq, Nat.succ_ne_zero, elemsC, Int.reduceToNat, Nat.reducePow, e]) | (simp (disch := (first | omega | (simp only [AL, List.length_map]; omega))) only [AR, AL, ifT, ifF, take_all, List.length_cons, List.length_nil, Int.reduceToNat, Int.reducePow, Nat.reducePow, e]) | (refine wk_intro (by kernel_rfl) ?_) | (refine vp_draw (id := 1) (l := []) (by kernel_rfl) ?_) | (refine vf_of (by first | exact r0 | exact c) ?_))
theorem quo_256 {w : Nat} (h1 : 2 ≤ w) (h2 : w ≤ 4) : ∃ m : Nat, Int.tdiv 256 (w : Int) = (m : Int) ∧ 64 ≤ m ∧ m ≤ 256 := by
  rcases (by omega : w = 2 ∨ w = 3 ∨ w = 4) with rfl | rfl | rfl
  · exact ⟨128, rfl, by omega, by omega⟩
  · exact ⟨85, rfl, by omega, by omega⟩
  · exact ⟨64, rfl, by omega, by omega⟩
section
variable {cs : List SV} {T : List (List Rat)}
theorem tab_ok (hl : ∀ r ∈ T, r.length ≤ 4) : ∀ i, (T.getD i []).length ≤ 4 := by
  intro i
  rw [List.getD_eq_getElem?_getD]
  by_cases h : i < T.length
  · rw [List.getElem?_eq_getElem h]; exact hl _ (List.getElem_mem h)
  · rw [List.getElem?_eq_none (by omega)]; simp
theorem test_isTable (h : TabC cs T 1) (hn : T.length ≤ 4) (hl : ∀ r ∈ T, r.length ≤ 4) : Go.Ev.Fn CX 210 [.sl T.length cs] (.int .i64 (tabE T)) := by
  have hlen := tab_len h
  have hat := fun {i : Nat} (hi : i < T.length) => tabC_at (i := i) h hi
  have h4 := tab_ok hl
  unfold tabE
  by_cases c1 : T.length < 2
  · rw [if_pos (.inl c1)]
    clear hat h4
    refine Go.Ev.Fn.intro (fn := Tryz.f210) (body := (Tryz.f210).body.get!) (by kernel_rfl) (by kernel_rfl) (by kernel_rfl) (fun _ => rfl) (Nat.le_of_ble_eq_true (by kernel_rfl)) ?_; unfold Tryz.f210; simp only [Option.get!_some]
    repeat (first | (simp only [go_sem, Nat.reduceEqDiff, Nat.reduceAdd, Nat.reduceSub, Nat.reduceMul, Nat.reduceLeDiff, Nat.reduceLT, reduceIte, reduceCtorEq, Nat.succ_ne_zero, elemsC, Int.reduceToNat, Nat.reducePow]) | (simp (disch := (first | omega | (simp only [AL, List.length_map]; omega))) only [AR, AL, ifT, ifF, take_all, List.length_cons, List.length_nil, Int.reduceToNat, Int.reducePow, Nat.reducePow]) | (refine wk_intro (by kernel_rfl) ?_))
  obtain ⟨rc0, a0, -⟩ := hat (i := 0) (by omega)
  have a0' : cs.head? = some (.sl (T.getD 0 []).length rc0) := a0
  have h40 := h4 0
  generalize hw : (T.getD 0 []).length = w at *
  by_cases c2 : w < 2
  · rw [if_pos (.inr c2)]
    clear hat h4
    refine Go.Ev.Fn.intro (fn := Tryz.f210) (body := (Tryz.f210).body.get!) (by kernel_rfl) (by kernel_rfl) (by kernel_rfl) (fun _ => rfl) (Nat.le_of_ble_eq_true (by kernel_rfl)) ?_; unfold Tryz.f210; simp only [Option.get!_some]
    repeat (first | (simp only [go_sem, Nat.reduceEqDiff, Nat.reduceAdd, Nat.reduceSub, Nat.reduceMul, Nat.reduceLeDiff, Nat.reduceLT, reduceIte, reduceCtorEq, Nat.succ_ne_zero, elemsC, Int.reduceToNat, Nat.reducePow, a0, a0', hlen]) | (simp (disch := (first | omega | (simp only [AL, List.length_map]; omega))) only [AR, AL, ifT, ifF, take_all, List.length_cons, List.length_nil, Int.reduceToNat, Int.reducePow, Nat.reducePow, a0, a0', hlen]) | (refine wk_intro (by kernel_rfl) ?_))
  rw [if_neg (by omega)]
  by_cases c3 : T.any (fun r => decide (r.length ≠ w)) = true
  · rw [if_pos c3]
    refine Go.Ev.Fn.intro (fn := Tryz.f210) (body := (Tryz.f210).body.get!) (by kernel_rfl) (by kernel_rfl) (by kernel_rfl) (fun _ => rfl) (Nat.le_of_ble_eq_true (by kernel_rfl)) ?_; unfold Tryz.f210; simp only [Option.get!_some]
    repeat (first | (simp only [go_sem, Nat.reduceEqDiff, Nat.reduceAdd, Nat.reduceSub, Nat.reduceMul, Nat.reduceLeDiff, Nat.reduceLT, reduceIte, reduceCtorEq, Nat.succ_ne_zero, elemsC, Int.reduceToNat, Nat.reducePow, a0, a0', hlen]) | (simp (disch := (first | omega | (simp only [AL, List.length_map]; omega))) only [AR, AL, ifT, ifF, take_all, List.length_cons, List.length_nil, Int.reduceToNat, Int.reducePow, Nat.reducePow, a0, a0', hlen]) | (refine wk_intro (by kernel_rfl) ?_))
    refine vp_loop_inv (fun s => s.tmp 0 = .sv (.sl T.length cs) ∧ s.tmp 19 = .sv (.sl T.length cs) ∧ s.tmp 20 = .sv (.int .i64 (T.length : Int)) ∧
        ∃ i : Nat, s.tmp 21 = .sv (.int .i64 (i : Int)) ∧ i ≤ T.length ∧ (T.take i).any (fun r => decide (r.length ≠ w)) = false)
      (fun s => match s.tmp 21 with | .sv (.int _ i) => T.length - i.toNat | _ => 0) ⟨rfl, rfl, rfl, 0, rfl, by omega, rfl⟩ ?_
    rintro s2 ⟨i0, i19, i20, i, i21, hi, hb⟩
    by_cases hend : i = T.length
    · subst hend
      rw [List.take_length, c3] at hb
      cases hb
    · obtain ⟨rc, a1, -⟩ := hat (i := i) (by omega)
      have h4i := h4 i
      have hor := any_take (fun r : List Rat => decide (r.length ≠ w)) T [] (i := i) (by omega)
      rw [hb, Bool.false_or] at hor
      generalize (T.getD i []).length = u at *
      clear hat h4 c3
      by_cases hu : u = w
      · subst hu
        rw [decide_eq_false (not_not_intro rfl)] at hor
        repeat (first | (simp only [go_sem, Nat.reduceEqDiff, Nat.reduceAdd, Nat.reduceSub, Nat.reduceMul, Nat.reduceLeDiff, Nat.reduceLT, reduceIte, reduceCtorEq, Nat.succ_ne_zero, elemsC, Int.reduceToNat, Nat.reducePow, i0, i19, i20, i21, a1, a0, a0', hlen]) | (simp (disch := (first | omega | (simp only [AL, List.length_map]; omega))) only [AR, AL, ifT, ifF, take_all, List.length_cons, List.length_nil, Int.reduceToNat, Int.reducePow, Nat.reducePow, i0, i19, i20, i21, a1, a0, a0', hlen]) | (refine wk_intro (by kernel_rfl) ?_))
        exact ⟨⟨i + 1, rfl, by omega, hor⟩, by omega⟩
      · clear hor
        repeat (first | (simp only [go_sem, Nat.reduceEqDiff, Nat.reduceAdd, Nat.reduceSub, Nat.reduceMul, Nat.reduceLeDiff, Nat.reduceLT, reduceIte, reduceCtorEq, Nat.succ_ne_zero, elemsC, Int.reduceToNat, Nat.reducePow, i0, i19, i20, i21, a1, a0, a0', hlen]) | (simp (disch := (first | omega | (simp only [AL, List.length_map]; omega))) only [AR, AL, ifT, ifF, take_all, List.length_cons, List.length_nil, Int.reduceToNat, Int.reducePow, Nat.reducePow, i0, i19, i20, i21, a1, a0, a0', hlen]) | (refine wk_intro (by kernel_rfl) ?_))
  rw [if_neg c3]
  have c3' := Bool.eq_false_iff.2 c3
  have hsame : ∀ i, i < T.length → (T.getD i []).length = w := by
    intro i hi
    have := fun e => c3 (any_of_getD (fun r : List Rat => decide (r.length ≠ w)) T [] hi e)
    by_cases e : (T.getD i []).length = w
    · exact e
    · exact absurd (decide_eq_true e) this
  obtain ⟨m, q1, q2, q3⟩ := quo_256 (w := w) (by omega) h40
  have hw0 : ¬ ((w : Int) = 0) := by omega
  clear h4 c3
  have key : ∀ (R : SV) (st : St), True := fun _ _ => trivial
  clear key
  by_cases c4 : T.any (fun r => r.any fun x => decide (x < 0)) = true
  · rw [if_pos c4]
    refine Go.Ev.Fn.intro (fn := Tryz.f210) (body := (Tryz.f210).body.get!) (by kernel_rfl) (by kernel_rfl) (by kernel_rfl) (fun _ => rfl) (Nat.le_of_ble_eq_true (by kernel_rfl)) ?_; unfold Tryz.f210; simp only [Option.get!_some]
    repeat (first | (simp only [go_sem, Nat.reduceEqDiff, Nat.reduceAdd, Nat.reduceSub, Nat.reduceMul, Nat.reduceLeDiff, Nat.reduceLT, reduceIte, reduceCtorEq, Nat.succ_ne_zero, elemsC, Int.reduceToNat, Nat.reducePow, a0, a0', hlen]) | (simp (disch := (first | omega | (simp only [AL, List.length_map]; omega))) only [AR, AL, ifT, ifF, take_all, List.length_cons, List.length_nil, Int.reduceToNat, Int.reducePow, Nat.reducePow, a0, a0', hlen]) | (refine wk_intro (by kernel_rfl) ?_))
    refine vp_loop_inv (fun s => s.tmp 0 = .sv (.sl T.length cs) ∧ s.tmp 19 = .sv (.sl T.length cs) ∧ s.tmp 20 = .sv (.int .i64 (T.length : Int)) ∧
        ∃ i : Nat, s.tmp 21 = .sv (.int .i64 (i : Int)) ∧ i ≤ T.length)
      (fun s => match s.tmp 21 with | .sv (.int _ i) => T.length - i.toNat | _ => 0) ⟨rfl, rfl, rfl, 0, rfl, by omega⟩ ?_
    rintro s2 ⟨i0, i19, i20, i, i21, hi⟩
    by_cases hend : i = T.length
    · subst hend
      repeat (first | (simp only [go_sem, Nat.reduceEqDiff, Nat.reduceAdd, Nat.reduceSub, Nat.reduceMul, Nat.reduceLeDiff, Nat.reduceLT, reduceIte, reduceCtorEq, Nat.succ_ne_zero, elemsC, Int.reduceToNat, Nat.reducePow, i0, i19, i20, i21, a0, a0', hlen, q1, hw0]) | (simp (disch := (first | omega | (simp only [AL, List.length_map]; omega))) only [AR, AL, ifT, ifF, take_all, List.length_cons, List.length_nil, Int.reduceToNat, Int.reducePow, Nat.reducePow, i0, i19, i20, i21, a0, a0', hlen, q1, hw0]) | (refine wk_intro (by kernel_rfl) ?_))
      refine vp_loop_inv (fun s => s.tmp 41 = .sv (.sl T.length cs) ∧ s.tmp 42 = .sv (.int .i64 (T.length : Int)) ∧
          ∃ i : Nat, s.tmp 43 = .sv (.int .i64 (i : Int)) ∧ i ≤ T.length ∧ (T.take i).any (fun r => r.any fun x => decide (x < 0)) = false)
        (fun s => match s.tmp 43 with | .sv (.int _ i) => T.length - i.toNat | _ => 0) ⟨rfl, rfl, 0, rfl, by omega, rfl⟩ ?_
      rintro s3 ⟨i41, i42, i, i43, hi, hb⟩
      by_cases hend : i = T.length
      · subst hend
        rw [List.take_length, c4] at hb
        cases hb
      · obtain ⟨rc, a1, hr⟩ := hat (i := i) (by omega)
        have hwi := hsame i (by omega)
        have hor := any_take (fun r : List Rat => r.any fun x => decide (x < 0)) T [] (i := i) (by omega)
        rw [hb, Bool.false_or] at hor
        generalize T.getD i [] = r at *
        have hrl := row_len hr
        clear hat c4 hsame
        repeat (first | (simp only [go_sem, Nat.reduceEqDiff, Nat.reduceAdd, Nat.reduceSub, Nat.reduceMul, Nat.reduceLeDiff, Nat.reduceLT, reduceIte, reduceCtorEq, Nat.succ_ne_zero, elemsC, Int.reduceToNat, Nat.reducePow, i41, i42, i43, a1, hlen, hwi]) | (simp (disch := (first | omega | (simp only [AL, List.length_map]; omega))) only [AR, AL, ifT, ifF, take_all, List.length_cons, List.length_nil, Int.reduceToNat, Int.reducePow, Nat.reducePow, i41, i42, i43, a1, hlen, hwi]) | (refine wk_intro (by kernel_rfl) ?_))
        refine vp_loop_inv (fun s => s.tmp 41 = .sv (.sl T.length cs) ∧ s.tmp 42 = .sv (.int .i64 (T.length : Int)) ∧ s.tmp 43 = .sv (.int .i64 (i : Int)) ∧ s.tmp 47 = .sv (.sl w rc) ∧ s.tmp 48 = .sv (.int .i64 (w : Int)) ∧
            ∃ k : Nat, s.tmp 49 = .sv (.int .i64 (k : Int)) ∧ k ≤ w ∧ (r.take k).any (fun x => decide (x < 0)) = false)
          (fun s => match s.tmp 49 with | .sv (.int _ i) => w - i.toNat | _ => 0) ⟨i41, i42, i43, rfl, rfl, 0, rfl, by omega, rfl⟩ ?_
        rintro s4 ⟨j41, j42, j43, j47, j48, k, j49, hk, hkb⟩
        by_cases hkend : k = w
        · subst hkend
          rw [← hwi, List.take_length] at hkb
          rw [hkb] at hor
          repeat (first | (simp only [go_sem, Nat.reduceEqDiff, Nat.reduceAdd, Nat.reduceSub, Nat.reduceMul, Nat.reduceLeDiff, Nat.reduceLT, reduceIte, reduceCtorEq, Nat.succ_ne_zero, elemsC, Int.reduceToNat, Nat.reducePow, j41, j42, j43, j47, j48, j49]) | (simp (disch := (first | omega | (simp only [AL, List.length_map]; omega))) only [AR, AL, ifT, ifF, take_all, List.length_cons, List.length_nil, Int.reduceToNat, Int.reducePow, Nat.reducePow, j41, j42, j43, j47, j48, j49]) | (refine wk_intro (by kernel_rfl) ?_))
          exact ⟨⟨i + 1, rfl, by omega, hor⟩, by omega⟩
        · obtain ⟨s, n, d, rest, g1, hA⟩ := row_at (i := k) hr (by omega)
          have b1 := test_isBelow hA (by omega) (by omega)
          have gor := any_take (fun x : Rat => decide (x < 0)) r 0 (i := k) (by omega)
          rw [hkb, Bool.false_or] at gor
          generalize r.getD k 0 = x at *
          clear hor hA
          by_cases hx : x < 0
          · rw [decide_eq_true hx] at b1
            clear gor
            repeat (first | (simp only [go_sem, Nat.reduceEqDiff, Nat.reduceAdd, Nat.reduceSub, Nat.reduceMul, Nat.reduceLeDiff, Nat.reduceLT, reduceIte, reduceCtorEq, Nat.succ_ne_zero, elemsC, Int.reduceToNat, Nat.reducePow, j41, j42, j43, j47, j48, j49, g1, hrl, hwi]) | (simp (disch := (first | omega | (simp only [AL, List.length_map]; omega))) only [AR, AL, ifT, ifF, take_all, List.length_cons, List.length_nil, Int.reduceToNat, Int.reducePow, Nat.reducePow, j41, j42, j43, j47, j48, j49, g1, hrl, hwi]) | (refine wk_intro (by kernel_rfl) ?_) | (refine vf_of (by first | exact b1) ?_))
          · rw [decide_eq_false hx] at b1 gor
            repeat (first | (simp only [go_sem, Nat.reduceEqDiff, Nat.reduceAdd, Nat.reduceSub, Nat.reduceMul, Nat.reduceLeDiff, Nat.reduceLT, reduceIte, reduceCtorEq, Nat.succ_ne_zero, elemsC, Int.reduceToNat, Nat.reducePow, j41, j42, j43, j47, j48, j49, g1, hrl, hwi]) | (simp (disch := (first | omega | (simp only [AL, List.length_map]; omega))) only [AR, AL, ifT, ifF, take_all, List.length_cons, List.length_nil, Int.reduceToNat, Int.reducePow, Nat.reducePow, j41, j42, j43, j47, j48, j49, g1, hrl, hwi]) | (refine wk_intro (by kernel_rfl) ?_) | (refine vf_of (by first | exact b1) ?_))
            exact ⟨⟨k + 1, rfl, by omega, gor⟩, by omega⟩
    · obtain ⟨rc, a1, -⟩ := hat (i := i) (by omega)
      have hwi := hsame i (by omega)
      clear hat c4 hsame
      repeat (first | (simp only [go_sem, Nat.reduceEqDiff, Nat.reduceAdd, Nat.reduceSub, Nat.reduceMul, Nat.reduceLeDiff, Nat.reduceLT, reduceIte, reduceCtorEq, Nat.succ_ne_zero, elemsC, Int.reduceToNat, Nat.reducePow, i0, i19, i20, i21, a1, a0, a0', hlen, hwi]) | (simp (disch := (first | omega | (simp only [AL, List.length_map]; omega))) only [AR, AL, ifT, ifF, take_all, List.length_cons, List.length_nil, Int.reduceToNat, Int.reducePow, Nat.reducePow, i0, i19, i20, i21, a1, a0, a0', hlen, hwi]) | (refine wk_intro (by kernel_rfl) ?_))
      exact ⟨⟨i + 1, rfl, by omega⟩, by omega⟩
  · rw [if_neg c4]
    have hneg : ∀ i k, i < T.length → k < w → ¬ (T.getD i []).getD k 0 < 0 := by
      intro i k hi hk hx
      refine c4 (any_of_getD _ T [] hi (any_of_getD (fun x : Rat => decide (x < 0)) _ 0 (i := k) ?_ (decide_eq_true hx)))
      rw [hsame i hi]; exact hk
    refine Go.Ev.Fn.intro (fn := Tryz.f210) (body := (Tryz.f210).body.get!) (by kernel_rfl) (by kernel_rfl) (by kernel_rfl) (fun _ => rfl) (Nat.le_of_ble_eq_true (by kernel_rfl)) ?_; unfold Tryz.f210; simp only [Option.get!_some]
    repeat (first | (simp only [go_sem, Nat.reduceEqDiff, Nat.reduceAdd, Nat.reduceSub, Nat.reduceMul, Nat.reduceLeDiff, Nat.reduceLT, reduceIte, reduceCtorEq, Nat.succ_ne_zero, elemsC, Int.reduceToNat, Nat.reducePow, a0, a0', hlen]) | (simp (disch := (first | omega | (simp only [AL, List.length_map]; omega))) only [AR, AL, ifT, ifF, take_all, List.length_cons, List.length_nil, Int.reduceToNat, Int.reducePow, Nat.reducePow, a0, a0', hlen]) | (refine wk_intro (by kernel_rfl) ?_))
    refine vp_loop_inv (fun s => s.tmp 0 = .sv (.sl T.length cs) ∧ s.tmp 19 = .sv (.sl T.length cs) ∧ s.tmp 20 = .sv (.int .i64 (T.length : Int)) ∧
        ∃ i : Nat, s.tmp 21 = .sv (.int .i64 (i : Int)) ∧ i ≤ T.length)
      (fun s => match s.tmp 21 with | .sv (.int _ i) => T.length - i.toNat | _ => 0) ⟨rfl, rfl, rfl, 0, rfl, by omega⟩ ?_
    rintro s2 ⟨i0, i19, i20, i, i21, hi⟩
    by_cases hend : i = T.length
    · subst hend
      repeat (first | (simp only [go_sem, Nat.reduceEqDiff, Nat.reduceAdd, Nat.reduceSub, Nat.reduceMul, Nat.reduceLeDiff, Nat.reduceLT, reduceIte, reduceCtorEq, Nat.succ_ne_zero, elemsC, Int.reduceToNat, Nat.reducePow, i0, i19, i20, i21, a0, a0', hlen, q1, hw0]) | (simp (disch := (first | omega | (simp only [AL, List.length_map]; omega))) only [AR, AL, ifT, ifF, take_all, List.length_cons, List.length_nil, Int.reduceToNat, Int.reducePow, Nat.reducePow, i0, i19, i20, i21, a0, a0', hlen, q1, hw0]) | (refine wk_intro (by kernel_rfl) ?_))
      refine vp_loop_inv (fun s => s.tmp 41 = .sv (.sl T.length cs) ∧ s.tmp 42 = .sv (.int .i64 (T.length : Int)) ∧
          ∃ i : Nat, s.tmp 43 = .sv (.int .i64 (i : Int)) ∧ i ≤ T.length)
        (fun s => match s.tmp 43 with | .sv (.int _ i) => T.length - i.toNat | _ => 0) ⟨rfl, rfl, 0, rfl, by omega⟩ ?_
      rintro s3 ⟨i41, i42, i, i43, hi⟩
      by_cases hend : i = T.length
      · subst hend
        repeat (first | (simp only [go_sem, Nat.reduceEqDiff, Nat.reduceAdd, Nat.reduceSub, Nat.reduceMul, Nat.reduceLeDiff, Nat.reduceLT, reduceIte, reduceCtorEq, Nat.succ_ne_zero, elemsC, Int.reduceToNat, Nat.reducePow, i41, i42, i43]) | (simp (disch := (first | omega | (simp only [AL, List.length_map]; omega))) only [AR, AL, ifT, ifF, take_all, List.length_cons, List.length_nil, Int.reduceToNat, Int.reducePow, Nat.reducePow, i41, i42, i43]) | (refine wk_intro (by kernel_rfl) ?_))
      · obtain ⟨rc, a1, hr⟩ := hat (i := i) (by omega)
        have hwi := hsame i (by omega)
        have hni := fun k hk => hneg i k (by omega) hk
        generalize T.getD i [] = r at *
        have hrl := row_len hr
        clear hat c4 hsame hneg
        repeat (first | (simp only [go_sem, Nat.reduceEqDiff, Nat.reduceAdd, Nat.reduceSub, Nat.reduceMul, Nat.reduceLeDiff, Nat.reduceLT, reduceIte, reduceCtorEq, Nat.succ_ne_zero, elemsC, Int.reduceToNat, Nat.reducePow, i41, i42, i43, a1, hlen, hwi]) | (simp (disch := (first | omega | (simp only [AL, List.length_map]; omega))) only [AR, AL, ifT, ifF, take_all, List.length_cons, List.length_nil, Int.reduceToNat, Int.reducePow, Nat.reducePow, i41, i42, i43, a1, hlen, hwi]) | (refine wk_intro (by kernel_rfl) ?_))
        refine vp_loop_inv (fun s => s.tmp 41 = .sv (.sl T.length cs) ∧ s.tmp 42 = .sv (.int .i64 (T.length : Int)) ∧ s.tmp 43 = .sv (.int .i64 (i : Int)) ∧ s.tmp 47 = .sv (.sl w rc) ∧ s.tmp 48 = .sv (.int .i64 (w : Int)) ∧
            ∃ k : Nat, s.tmp 49 = .sv (.int .i64 (k : Int)) ∧ k ≤ w)
          (fun s => match s.tmp 49 with | .sv (.int _ i) => w - i.toNat | _ => 0) ⟨i41, i42, i43, rfl, rfl, 0, rfl, by omega⟩ ?_
        rintro s4 ⟨j41, j42, j43, j47, j48, k, j49, hk⟩
        by_cases hkend : k = w
        · subst hkend
          repeat (first | (simp only [go_sem, Nat.reduceEqDiff, Nat.reduceAdd, Nat.reduceSub, Nat.reduceMul, Nat.reduceLeDiff, Nat.reduceLT, reduceIte, reduceCtorEq, Nat.succ_ne_zero, elemsC, Int.reduceToNat, Nat.reducePow, j41, j42, j43, j47, j48, j49]) | (simp (disch := (first | omega | (simp only [AL, List.length_map]; omega))) only [AR, AL, ifT, ifF, take_all, List.length_cons, List.length_nil, Int.reduceToNat, Int.reducePow, Nat.reducePow, j41, j42, j43, j47, j48, j49]) | (refine wk_intro (by kernel_rfl) ?_))
          exact ⟨⟨i + 1, rfl, by omega⟩, by omega⟩
        · obtain ⟨s, n, d, rest, g1, hA⟩ := row_at (i := k) hr (by omega)
          have b1 := test_isBelow hA (by omega) (by omega)
          have hx := hni k (by omega)
          rw [decide_eq_false hx] at b1
          clear hx hni hA
          repeat (first | (simp only [go_sem, Nat.reduceEqDiff, Nat.reduceAdd, Nat.reduceSub, Nat.reduceMul, Nat.reduceLeDiff, Nat.reduceLT, reduceIte, reduceCtorEq, Nat.succ_ne_zero, elemsC, Int.reduceToNat, Nat.reducePow, j41, j42, j43, j47, j48, j49, g1, hrl, hwi]) | (simp (disch := (first | omega | (simp only [AL, List.length_map]; omega))) only [AR, AL, ifT, ifF, take_all, List.length_cons, List.length_nil, Int.reduceToNat, Int.reducePow, Nat.reducePow, j41, j42, j43, j47, j48, j49, g1, hrl, hwi]) | (refine wk_intro (by kernel_rfl) ?_) | (refine vf_of (by first | exact b1) ?_))
          exact ⟨⟨k + 1, rfl, by omega⟩, by omega⟩
    · obtain ⟨rc, a1, -⟩ := hat (i := i) (by omega)
      have hwi := hsame i (by omega)
      clear hat c4 hsame hneg
      repeat (first | (simp only [go_sem, Nat.reduceEqDiff, Nat.reduceAdd, Nat.reduceSub, Nat.reduceMul, Nat.reduceLeDiff, Nat.reduceLT, reduceIte, reduceCtorEq, Nat.succ_ne_zero, elemsC, Int.reduceToNat, Nat.reducePow, i0, i19, i20, i21, a1, a0, a0', hlen, hwi]) | (simp (disch := (first | omega | (simp only [AL, List.length_map]; omega))) only [AR, AL, ifT, ifF, take_all, List.length_cons, List.length_nil, Int.reduceToNat, Int.reducePow, Nat.reducePow, i0, i19, i20, i21, a1, a0, a0', hlen, hwi]) | (refine wk_intro (by kernel_rfl) ?_))
      exact ⟨⟨i + 1, rfl, by omega⟩, by omega⟩
end
end Go.Proofs.YthbjgdmcnonofaaGreat

/- vernierref19.rows, column; vernierref17.Sum, in the evaluator. -/
namespace Go.Proofs.YthbjgdmcnonofaaGreat
set_option linter.unusedSimpArgs false
set_option linter.unusedVariables false
set_option maxRecDepth 8000
open Go.Ev
section
variable {cs : List SV} {T : List (List Rat)}
end
end Go.Proofs.YthbjgdmcnonofaaGreat

/- vernierref17: by, Mean, power, Off of 2, Variance, in the evaluator. -/
namespace Go.Proofs.YthbjgdmcnonofaaGreat
set_option linter.unusedSimpArgs false
set_option linter.unusedVariables false
set_option maxRecDepth 8000
open Go.Ev
end Go.Proofs.YthbjgdmcnonofaaGreat

/- vernierref19: paired, pooled, fisher, z; test.z, in the evaluator. -/
namespace Go.Proofs.YthbjgdmcnonofaaGreat
set_option linter.unusedSimpArgs false
set_option linter.unusedVariables false
set_option maxRecDepth 8000
open Go.Ev
/-- A mean whose deviation is known. -/
def zR (l : List Rat) (mu sg : Rat) : Res :=
  if sg ≤ 0 then (0, [], 4) else if l.length = 0 then (0, [], 5) else (lenR l * ((meanR l - mu) * (meanR l - mu)) / (sg * sg), [1], 0)
theorem zR_alt {n d s : Rat} : n * ((d / s) * (d / s)) = n * (d * d) / (s * s) := by
  rw [Rat.div_def, Rat.div_def, Rat.inv_mul_rev]
  grind
section
variable {kind k n : Int} {tn : Nat} {xs ys tc : List SV} {sm ss : Bool} {nm dm ns ds : List Nat} {l m : List Rat}
theorem pool_ref (l m : List Rat) (h1 : l.length ≠ 0) (h2 : m.length ≠ 0) : ((1 : Int) : Rat) / ((l.length : Int) : Rat) + ((1 : Int) : Rat) / ((m.length : Int) : Rat) = (((l.length : Int) + (m.length : Int) : Int) : Rat) / (((l.length : Int) * (m.length : Int) : Int) : Rat) := by
  have e1 := lenR_ne (l := l) (by rintro rfl; exact h1 rfl)
  have e2 := lenR_ne (l := m) (by rintro rfl; exact h2 rfl)
  rw [Rat.intCast_add, Rat.intCast_mul]
  show _ / lenR l + _ / lenR m = (lenR l + lenR m) / (lenR l * lenR m)
  generalize lenR l = x at *
  generalize lenR m = y at *
  have e3 : x * y ≠ 0 := fun e => by rcases Rat.mul_eq_zero.1 e with h | h <;> contradiction
  symm
  refine div_uniq e3 ?_
  have a := div_cancel' (x := ((1 : Int) : Rat)) e1
  have b := div_cancel' (x := ((1 : Int) : Rat)) e2
  generalize ((1 : Int) : Rat) / x = p at *
  generalize ((1 : Int) : Rat) / y = q at *
  have o : ((1 : Int) : Rat) = 1 := rfl
  rw [o] at a b
  have : (p + q) * (x * y) = (p * x) * y + (q * y) * x := by grind
  rw [this, a, b]
  grind
end
end Go.Proofs.YthbjgdmcnonofaaGreat

/- test.z, misses, fit; vernierref19.z, fit, in the evaluator. -/
namespace Go.Proofs.YthbjgdmcnonofaaGreat
set_option linter.unusedSimpArgs false
set_option linter.unusedVariables false
set_option maxRecDepth 8000
open Go.Ev
section
variable {kind k n : Int} {tn Y : Nat} {xs ys tc : List SV} {sm ss : Bool} {nm dm ns ds : List Nat} {l : List Rat} {mu sg : Rat} {M : Nat}
theorem test_z (h : RowC xs l 1) (hl : l.length ≤ 12) (hm : RatA (ratV sm nm dm) mu M) (hs : RatA (ratV ss ns ds) sg M) (hM : 1 ≤ M) (hM2 : M ≤ 100) :
    Go.Ev.Fn CX 124 [testV kind (.sl l.length xs) (.sl Y ys) (.sl tn tc) sm nm dm ss ns ds k n] (resV (zR l mu sg)) := by
  have r0 := rat_Int 0 (by omega)
  have c0 := rat_Cmp hs (RatA_rv (int_szR (n := 0) (by omega))) hM (by omega) (by omega)
  have e0 : decide (cmpR sg ((0 : Int) : Rat) ≤ 0) = decide (sg ≤ 0) := cmpR_le
  unfold zR
  by_cases c1 : sg ≤ 0
  · rw [if_pos c1]
    rw [decide_eq_true c1] at e0
    clear h hm hs c1
    refine Go.Ev.Fn.intro (fn := Tryz.f124) (body := (Tryz.f124).body.get!) (by kernel_rfl) (by kernel_rfl) (by kernel_rfl) (fun _ => rfl) (Nat.le_of_ble_eq_true (by kernel_rfl)) ?_; unfold Tryz.f124; simp only [Option.get!_some]
    repeat (first | (simp only [go_sem, Nat.reduceEqDiff, Nat.reduceAdd, Nat.reduceSub, Nat.reduceMul, Nat.reduceLeDiff, Nat.reduceLT, reduceIte, reduceCtorEq, Nat.succ_ne_zero, elemsC, Int.reduceToNat, Nat.reducePow, e0]) | (simp (disch := (first | omega | (simp only [AL, List.length_map]; omega))) only [AR, AL, ifT, ifF, take_all, List.length_cons, List.length_nil, Int.reduceToNat, Int.reducePow, Nat.reducePow, e0]) | (refine wk_intro (by kernel_rfl) ?_) | (refine vp_draw (id := 1) (l := []) (by kernel_rfl) ?_) | (refine vp_draw (id := 6) (l := []) (by kernel_rfl) ?_) | (refine vp_draw (id := 7) (l := []) (by kernel_rfl) ?_) | (refine vf_of (by first | exact r0 | exact c0) ?_))
    rfl
  rw [if_neg c1]
  rw [decide_eq_false c1] at e0
  have m1 := stat_Mean h (by omega) (by omega) hl
  by_cases c2 : l.length = 0
  · rw [if_pos c2] at m1 ⊢
    clear h hm hs c1
    refine Go.Ev.Fn.intro (fn := Tryz.f124) (body := (Tryz.f124).body.get!) (by kernel_rfl) (by kernel_rfl) (by kernel_rfl) (fun _ => rfl) (Nat.le_of_ble_eq_true (by kernel_rfl)) ?_; unfold Tryz.f124; simp only [Option.get!_some]
    repeat (first | (simp only [go_sem, Nat.reduceEqDiff, Nat.reduceAdd, Nat.reduceSub, Nat.reduceMul, Nat.reduceLeDiff, Nat.reduceLT, reduceIte, reduceCtorEq, Nat.succ_ne_zero, elemsC, Int.reduceToNat, Nat.reducePow, e0]) | (simp (disch := (first | omega | (simp only [AL, List.length_map]; omega))) only [AR, AL, ifT, ifF, take_all, List.length_cons, List.length_nil, Int.reduceToNat, Int.reducePow, Nat.reducePow, e0]) | (refine wk_intro (by kernel_rfl) ?_) | (refine vp_draw (id := 1) (l := []) (by kernel_rfl) ?_) | (refine vp_draw (id := 6) (l := []) (by kernel_rfl) ?_) | (refine vp_draw (id := 7) (l := []) (by kernel_rfl) ?_) | (refine vf_of (by first | exact r0 | exact c0 | exact m1) ?_))
    rfl
  rw [if_neg c2] at m1 ⊢
  have zm := sz_mean (by omega) (row_sz (by omega) h) hl
  have d1 := rat_Sub (RatA_rv zm) hm (by omega) (by omega) (by omega)
  have zd := szR_sub zm (szR_of hm hM) (by omega)
  have o1 := test_over (RatA_rv zd) hs (by omega) (by omega) (by omega)
  have zo := szR_div zd (szR_of hs hM) (by omega) (by omega)
  have s1 := test_square (RatA_rv zo) (by omega) (by omega)
  have i1 := rat_Int (l.length : Int) (by omega)
  have p1 := rat_Mul (RatA_rv (int_szR (n := (l.length : Int)) (by omega))) (RatA_rv (szR_mul zo zo (by omega))) (by omega) (by omega) (by omega)
  rw [zR_alt] at p1
  clear h hm hs c1 zm zd zo
  generalize meanR l = x at *
  generalize (x - mu) / sg = y at *
  generalize ((l.length : Int) : Rat) * ((x - mu) * (x - mu)) / (sg * sg) = w at *
  show Go.Ev.Fn CX 124 _ (resV (w, [1], 0))
  refine Go.Ev.Fn.intro (fn := Tryz.f124) (body := (Tryz.f124).body.get!) (by kernel_rfl) (by kernel_rfl) (by kernel_rfl) (fun _ => rfl) (Nat.le_of_ble_eq_true (by kernel_rfl)) ?_; unfold Tryz.f124; simp only [Option.get!_some]
  repeat (first | (simp only [go_sem, Nat.reduceEqDiff, Nat.reduceAdd, Nat.reduceSub, Nat.reduceMul, Nat.reduceLeDiff, Nat.reduceLT, reduceIte, reduceCtorEq, Nat.succ_ne_zero, elemsC, Int.reduceToNat, Nat.reducePow, e0]) | (simp (disch := (first | omega | (simp only [AL, List.length_map]; omega))) only [AR, AL, ifT, ifF, take_all, List.length_cons, List.length_nil, Int.reduceToNat, Int.reducePow, Nat.reducePow, e0]) | (refine wk_intro (by kernel_rfl) ?_) | (refine vp_draw (id := 1) (l := []) (by kernel_rfl) ?_) | (refine vp_draw (id := 6) (l := []) (by kernel_rfl) ?_) | (refine vp_draw (id := 7) (l := []) (by kernel_rfl) ?_) | (refine vf_of (by first | exact r0 | exact c0 | exact m1 | exact d1 | exact o1 | exact s1 | exact i1 | exact p1) ?_))
end
/-- What numbers are off others, squared, by these. -/
def missL (l m : List Rat) : List Rat := List.zipWith (fun x y => (x - y) * (x - y) / y) l m
def missR (l m : List Rat) : Rat := sumR (missL l m)
theorem missL_len {l m : List Rat} (h : l.length = m.length) : (missL l m).length = l.length := by unfold missL; rw [List.length_zipWith]; omega
theorem missL_at {l m : List Rat} (h : l.length = m.length) {i : Nat} (hi : i < l.length) : (missL l m).getD i 0 = (l.getD i 0 - m.getD i 0) * (l.getD i 0 - m.getD i 0) / m.getD i 0 := by
  unfold missL
  rw [List.getD_eq_getElem?_getD, List.getD_eq_getElem?_getD, List.getD_eq_getElem?_getD, List.getElem?_eq_getElem (by rw [List.length_zipWith]; omega), List.getElem?_eq_getElem hi, List.getElem?_eq_getElem (by omega), List.getElem_zipWith]
  rfl
theorem missL_sz {l m : List Rat} {L M : Nat} (hl : ∀ x ∈ l, szR x L) (hm : ∀ x ∈ m, szR x M) (hL : 1 ≤ L) (hM : 1 ≤ M) : ∀ x ∈ missL l m, szR x (2 * L + 3 * M + 2) := by
  intro x hx
  unfold missL at hx
  obtain ⟨i, hi, rfl⟩ := List.getElem_of_mem hx
  rw [List.getElem_zipWith]
  have a := hl _ (List.getElem_mem (l := l) (n := i) (by rw [List.length_zipWith] at hi; omega))
  have b := hm _ (List.getElem_mem (l := m) (n := i) (by rw [List.length_zipWith] at hi; omega))
  have d := szR_sub a b hL
  exact szR_mono (szR_div (szR_mul d d (by omega)) b (by omega) hM) (by omega)
theorem test_misses {cs ds : List SV} {l m : List Rat} {L M : Nat} (h : RowC cs l L) (h2 : RowC ds m M) (hL : 1 ≤ L) (hL2 : L ≤ 1000) (hM : 1 ≤ M) (hM2 : M ≤ 1000) (hl : l.length ≤ 12) (hlm : l.length = m.length) :
    Go.Ev.Fn CX 184 [.sl l.length cs, .sl m.length ds] (rv (missR l m)) := by
  have r0 := rat_Int 0 (by omega)
  have hlen := row_len h
  have hlen2 := row_len h2
  have hml := missL_len hlm
  have hmz := missL_sz (row_sz hL h) (row_sz hM h2) hL hM
  refine Go.Ev.Fn.intro (fn := Tryz.f184) (body := (Tryz.f184).body.get!) (by kernel_rfl) (by kernel_rfl) (by kernel_rfl) (fun _ => rfl) (Nat.le_of_ble_eq_true (by kernel_rfl)) ?_; unfold Tryz.f184; simp only [Option.get!_some]
  repeat (first | (simp only [go_sem, Nat.reduceEqDiff, Nat.reduceAdd, Nat.reduceSub, Nat.reduceMul, Nat.reduceLeDiff, Nat.reduceLT, reduceIte, reduceCtorEq, Nat.succ_ne_zero, elemsC, Int.reduceToNat, Nat.reducePow]) | (simp (disch := (first | omega | (simp only [AL, List.length_map]; omega))) only [AR, AL, ifT, ifF, take_all, List.length_cons, List.length_nil, Int.reduceToNat, Int.reducePow, Nat.reducePow]) | (refine wk_intro (by kernel_rfl) ?_) | (refine vp_draw (id := 5) (l := []) (by kernel_rfl) ?_) | (refine vf_of (by first | exact r0) ?_))
  refine vp_loop_inv (fun s => s.tmp 9 = .sv (.sl l.length cs) ∧ s.tmp 1 = .sv (.sl m.length ds) ∧ s.tmp 10 = .sv (.int .i64 (l.length : Int)) ∧ s.tmp 4 = .ptr 4 0 0 ∧ s.obj 4 0 = some [.bool false, .sl 0 [], .sl 0 []] ∧ s.tmp 5 = .ptr 5 0 0 ∧
      ∃ i : Nat, s.tmp 11 = .sv (.int .i64 (i : Int)) ∧ i ≤ l.length ∧ s.obj 5 0 = some (rvC (sumR ((missL l m).take i))))
    (fun s => match s.tmp 11 with | .sv (.int _ i) => l.length - i.toNat | _ => 0) ⟨rfl, rfl, rfl, rfl, rfl, rfl, 0, rfl, by omega, rfl⟩ ?_
  rintro s2 ⟨i9, i1, i10, i4, iO, i5, i, i11, hi, iP⟩
  by_cases hend : i = l.length
  · subst hend
    rw [List.take_of_length_le (by omega)] at iP
    have iP : s2.obj 5 0 = some (rvC (missR l m)) := iP
    repeat (first | (simp only [go_sem, Nat.reduceEqDiff, Nat.reduceAdd, Nat.reduceSub, Nat.reduceMul, Nat.reduceLeDiff, Nat.reduceLT, reduceIte, reduceCtorEq, Nat.succ_ne_zero, elemsC, Int.reduceToNat, Nat.reducePow, i9, i1, i10, i4, iO, i5, i11, iP, rvC]) | (simp (disch := (first | omega | (simp only [AL, List.length_map]; omega))) only [AR, AL, ifT, ifF, take_all, List.length_cons, List.length_nil, Int.reduceToNat, Int.reducePow, Nat.reducePow, i9, i1, i10, i4, iO, i5, i11, iP, rvC]) | (refine wk_intro (by kernel_rfl) ?_) | (refine vp_draw (id := 5) (l := []) (by kernel_rfl) ?_))
  · obtain ⟨s, n, d, rest, g1, hA⟩ := row_at (i := i) h (by omega)
    obtain ⟨s', n', d', rest', g2, hB⟩ := row_at (i := i) h2 (by omega)
    have hS := sumR_take (missL l m) (i := i) (by omega)
    rw [missL_at hlm (by omega)] at hS
    have sb := rat_Sub hA hB hL hM (by omega)
    have zs := szR_sub (szR_of hA hL) (szR_of hB hM) hL
    have sq := test_square (RatA_rv zs) (by omega) (by omega)
    have ov := test_over (RatA_rv (szR_mul zs zs (by omega))) hB (by omega) hM (by omega)
    have zo := szR_div (szR_mul zs zs (by omega)) (szR_of hB hM) (by omega) hM
    have a := rat_Add (RatA_rv (sz_take12 (by omega) hmz (by omega) i)) (RatA_rv zo) (by omega) (by omega) (by omega)
    rw [← hS] at a
    clear h h2 hA hB hmz zs zo hS
    generalize l.getD i 0 - m.getD i 0 = x at *
    generalize x * x / m.getD i 0 = y at *
    repeat (first | (simp only [go_sem, Nat.reduceEqDiff, Nat.reduceAdd, Nat.reduceSub, Nat.reduceMul, Nat.reduceLeDiff, Nat.reduceLT, reduceIte, reduceCtorEq, Nat.succ_ne_zero, elemsC, Int.reduceToNat, Nat.reducePow, i9, i1, i10, i4, iO, i5, i11, iP, rvC, g1, g2, hlen, hlen2]) | (simp (disch := (first | omega | (simp only [AL, List.length_map]; omega))) only [AR, AL, ifT, ifF, take_all, List.length_cons, List.length_nil, Int.reduceToNat, Int.reducePow, Nat.reducePow, i9, i1, i10, i4, iO, i5, i11, iP, rvC, g1, g2, hlen, hlen2]) | (refine wk_intro (by kernel_rfl) ?_) | (refine vp_draw (id := 5) (l := []) (by kernel_rfl) ?_) | (refine vf_of (by first | exact sb | exact sq | exact ov | exact a) ?_))
    exact ⟨⟨i + 1, rfl, by omega, rfl⟩, by omega⟩
end Go.Proofs.YthbjgdmcnonofaaGreat

/- test.fit, vernierref19.fit, in the evaluator. -/
namespace Go.Proofs.YthbjgdmcnonofaaGreat
set_option linter.unusedSimpArgs false
set_option linter.unusedVariables false
set_option maxRecDepth 8000
open Go.Ev
/-- May two counts not be? -/
def badF (l m : List Rat) (i : Nat) : Bool := decide (l.getD i 0 < 0) || decide (m.getD i 0 ≤ 0)
def wantR (l m : List Rat) : List Rat := m.map fun y => sumR l / sumR m * y
/-- Counts by weights. -/
def fitR (l m : List Rat) : Res :=
  if l.length ≠ m.length then (0, [], 1) else if (List.range l.length).any (badF l m) = true then (0, [], 4) else if l.length < 2 ∨ sumR l = 0 then (0, [], 5) else
  (missR l (wantR l m), [(l.length : Int) - 1], 0)
theorem le_split {x : Rat} : decide (x ≤ 0) = (decide (x < 0) || decide (x = 0)) := by
  by_cases h : x < 0
  · rw [decide_eq_true h, decide_eq_true (by grind), Bool.true_or]
  · by_cases h2 : x = 0
    · rw [decide_eq_true h2, decide_eq_true (by grind), Bool.or_true]
    · rw [decide_eq_false h, decide_eq_false h2, decide_eq_false (by grind)]; rfl
theorem want_len (l m : List Rat) : (wantR l m).length = m.length := List.length_map _
theorem want_at (l m : List Rat) {i : Nat} (h : i < m.length) : (wantR l m).getD i 0 = sumR l / sumR m * m.getD i 0 := getD_map m _ h
section
variable {kind k n : Int} {tn : Nat} {xs ys tc : List SV} {sm ss : Bool} {nm dm ns ds : List Nat} {l m : List Rat}
set_option maxHeartbeats 1000000 in
theorem test_fit (h : RowC xs l 1) (h2 : RowC ys m 1) (hl : l.length ≤ 12) (hm : m.length ≤ 12) :
    Go.Ev.Fn CX 129 [.sl l.length xs, .sl m.length ys] (resV (fitR l m)) := by
  have r0 := rat_Int 0 (by omega)
  have hlen := row_len h
  have hlen2 := row_len h2
  unfold fitR
  by_cases hlm : l.length = m.length
  rotate_left
  · rw [if_pos hlm]
    clear h h2
    refine Go.Ev.Fn.intro (fn := Tryz.f129) (body := (Tryz.f129).body.get!) (by kernel_rfl) (by kernel_rfl) (by kernel_rfl) (fun _ => rfl) (Nat.le_of_ble_eq_true (by kernel_rfl)) ?_; unfold Tryz.f129; simp only [Option.get!_some]
    repeat (first | (simp only [go_sem, Nat.reduceEqDiff, Nat.reduceAdd, Nat.reduceSub, Nat.reduceMul, Nat.reduceLeDiff, Nat.reduceLT, reduceIte, reduceCtorEq, Nat.succ_ne_zero, elemsC, Int.reduceToNat, Nat.reducePow]) | (simp (disch := (first | omega | (simp only [AL, List.length_map]; omega))) only [AR, AL, ifT, ifF, take_all, List.length_cons, List.length_nil, Int.reduceToNat, Int.reducePow, Nat.reducePow]) | (refine wk_intro (by kernel_rfl) ?_) | (refine vp_draw (id := 12) (l := [1]) (by kernel_rfl) ?_) | (refine vf_of (by first | exact r0) ?_))
    rfl
  rw [if_neg (not_not_intro hlm)]
  by_cases hbad : (List.range l.length).any (badF l m) = true
  · rw [if_pos hbad]
    obtain ⟨j, hj, hbj⟩ := List.any_eq_true.1 hbad
    rw [List.mem_range] at hj
    clear hbad
    refine Go.Ev.Fn.intro (fn := Tryz.f129) (body := (Tryz.f129).body.get!) (by kernel_rfl) (by kernel_rfl) (by kernel_rfl) (fun _ => rfl) (Nat.le_of_ble_eq_true (by kernel_rfl)) ?_; unfold Tryz.f129; simp only [Option.get!_some]
    repeat (first | (simp only [go_sem, Nat.reduceEqDiff, Nat.reduceAdd, Nat.reduceSub, Nat.reduceMul, Nat.reduceLeDiff, Nat.reduceLT, reduceIte, reduceCtorEq, Nat.succ_ne_zero, elemsC, Int.reduceToNat, Nat.reducePow]) | (simp (disch := (first | omega | (simp only [AL, List.length_map]; omega))) only [AR, AL, ifT, ifF, take_all, List.length_cons, List.length_nil, Int.reduceToNat, Int.reducePow, Nat.reducePow]) | (refine wk_intro (by kernel_rfl) ?_) | (refine vp_draw (id := 12) (l := [1]) (by kernel_rfl) ?_))
    refine vp_loop_inv (fun s => s.tmp 4 = .ptr 4 0 0 ∧ s.obj 4 0 = some [.bool false, .sl 0 [], .sl 0 []] ∧ s.tmp 1 = .sv (.sl m.length ys) ∧ s.tmp 20 = .sv (.sl l.length xs) ∧ s.tmp 21 = .sv (.int .i64 (l.length : Int)) ∧
        ∃ i : Nat, s.tmp 22 = .sv (.int .i64 (i : Int)) ∧ i ≤ l.length ∧ i ≤ j)
      (fun s => match s.tmp 22 with | .sv (.int _ i) => l.length - i.toNat | _ => 0) ⟨rfl, rfl, rfl, rfl, rfl, 0, rfl, by omega, by omega⟩ ?_
    rintro s2 ⟨i4, o4, i1, i20, i21, i, i22, hi, hij⟩
    have hil : i < l.length := by omega
    obtain ⟨s, n', d, rest, g1, hA⟩ := row_at (i := i) h (by omega)
    obtain ⟨s', n'', d', rest', g2, hB⟩ := row_at (i := i) h2 (by omega)
    have b1 := test_isBelow hA (by omega) (by omega)
    have b2 := test_isBelow hB (by omega) (by omega)
    have b3 := rat_Zero hB (by omega) (by omega)
    have hbi : i = j → (decide (l.getD i 0 < 0) || (decide (m.getD i 0 < 0) || decide (m.getD i 0 = 0))) = true := by
      rintro rfl
      rw [← le_split]
      exact hbj
    generalize l.getD i 0 = x at *
    generalize m.getD i 0 = y at *
    clear h h2 hA hB hbj
    by_cases cx : x < 0
    · rw [decide_eq_true cx] at b1
      clear hbi
      repeat (first | (simp only [go_sem, Nat.reduceEqDiff, Nat.reduceAdd, Nat.reduceSub, Nat.reduceMul, Nat.reduceLeDiff, Nat.reduceLT, reduceIte, reduceCtorEq, Nat.succ_ne_zero, elemsC, Int.reduceToNat, Nat.reducePow, i4, o4, i1, i20, i21, i22, g1, g2, hlen, hlen2]) | (simp (disch := (first | omega | (simp only [AL, List.length_map]; omega))) only [AR, AL, ifT, ifF, take_all, List.length_cons, List.length_nil, Int.reduceToNat, Int.reducePow, Nat.reducePow, i4, o4, i1, i20, i21, i22, g1, g2, hlen, hlen2]) | (refine wk_intro (by kernel_rfl) ?_) | (refine vp_draw (id := 12) (l := [1]) (by kernel_rfl) ?_) | (refine vf_of (by first | exact b1 | exact r0) ?_))
      rfl
    rw [decide_eq_false cx] at b1 hbi
    by_cases cy : y < 0
    · rw [decide_eq_true cy] at b2
      clear hbi
      repeat (first | (simp only [go_sem, Nat.reduceEqDiff, Nat.reduceAdd, Nat.reduceSub, Nat.reduceMul, Nat.reduceLeDiff, Nat.reduceLT, reduceIte, reduceCtorEq, Nat.succ_ne_zero, elemsC, Int.reduceToNat, Nat.reducePow, i4, o4, i1, i20, i21, i22, g1, g2, hlen, hlen2]) | (simp (disch := (first | omega | (simp only [AL, List.length_map]; omega))) only [AR, AL, ifT, ifF, take_all, List.length_cons, List.length_nil, Int.reduceToNat, Int.reducePow, Nat.reducePow, i4, o4, i1, i20, i21, i22, g1, g2, hlen, hlen2]) | (refine wk_intro (by kernel_rfl) ?_) | (refine vp_draw (id := 12) (l := [1]) (by kernel_rfl) ?_) | (refine vf_of (by first | exact b1 | exact b2 | exact r0) ?_))
      rfl
    rw [decide_eq_false cy] at b2 hbi
    by_cases cz : y = 0
    · rw [decide_eq_true cz] at b3
      clear hbi
      repeat (first | (simp only [go_sem, Nat.reduceEqDiff, Nat.reduceAdd, Nat.reduceSub, Nat.reduceMul, Nat.reduceLeDiff, Nat.reduceLT, reduceIte, reduceCtorEq, Nat.succ_ne_zero, elemsC, Int.reduceToNat, Nat.reducePow, i4, o4, i1, i20, i21, i22, g1, g2, hlen, hlen2]) | (simp (disch := (first | omega | (simp only [AL, List.length_map]; omega))) only [AR, AL, ifT, ifF, take_all, List.length_cons, List.length_nil, Int.reduceToNat, Int.reducePow, Nat.reducePow, i4, o4, i1, i20, i21, i22, g1, g2, hlen, hlen2]) | (refine wk_intro (by kernel_rfl) ?_) | (refine vp_draw (id := 12) (l := [1]) (by kernel_rfl) ?_) | (refine vf_of (by first | exact b1 | exact b2 | exact b3 | exact r0) ?_))
      rfl
    rw [decide_eq_false cz] at b3 hbi
    have hne : i ≠ j := fun e => by have := hbi e; cases this
    clear hbi cx cy cz
    repeat (first | (simp only [go_sem, Nat.reduceEqDiff, Nat.reduceAdd, Nat.reduceSub, Nat.reduceMul, Nat.reduceLeDiff, Nat.reduceLT, reduceIte, reduceCtorEq, Nat.succ_ne_zero, elemsC, Int.reduceToNat, Nat.reducePow, i4, o4, i1, i20, i21, i22, g1, g2, hlen, hlen2]) | (simp (disch := (first | omega | (simp only [AL, List.length_map]; omega))) only [AR, AL, ifT, ifF, take_all, List.length_cons, List.length_nil, Int.reduceToNat, Int.reducePow, Nat.reducePow, i4, o4, i1, i20, i21, i22, g1, g2, hlen, hlen2]) | (refine wk_intro (by kernel_rfl) ?_) | (refine vp_draw (id := 12) (l := [1]) (by kernel_rfl) ?_) | (refine vf_of (by first | exact b1 | exact b2 | exact b3) ?_))
    exact ⟨⟨i + 1, rfl, by omega, by omega⟩, by omega⟩
  rw [if_neg hbad]
  have hgood : ∀ i, i < l.length → (decide (l.getD i 0 < 0) || (decide (m.getD i 0 < 0) || decide (m.getD i 0 = 0))) = false := by
    intro i hi
    rw [← le_split]
    have := fun e => hbad (List.any_eq_true.2 ⟨i, List.mem_range.2 hi, e⟩)
    exact Bool.eq_false_iff.2 this
  clear hbad
  have s1 := stat_Sum h (by omega) (by omega) hl
  have s2 := stat_Sum h2 (by omega) (by omega) hm
  have zl := sz_sum12 (by omega) (row_sz (by omega) h) hl
  have zm := sz_sum12 (by omega) (row_sz (by omega) h2) hm
  have zz := rat_Zero (RatA_rv zl) (by omega) (by omega)
  have ov := test_over (RatA_rv zl) (RatA_rv zm) (by omega) (by omega) (by omega)
  have zo := szR_div zl zm (by omega) (by omega)
  have hwz : ∀ x ∈ wantR l m, szR x 51 := by
    intro x hx
    obtain ⟨y, hy, rfl⟩ := List.mem_map.1 hx
    exact szR_mono (szR_mul zo (row_sz (by omega) h2 y hy) (by omega)) (by omega)
  have hwl := want_len l m
  have ms := test_misses h (rvsC_row _ hwz) (by omega) (by omega) (by omega) (by omega) hl (by omega)
  have hwa := fun {i : Nat} (hi : i < m.length) => want_at l m hi
  refine Go.Ev.Fn.intro (fn := Tryz.f129) (body := (Tryz.f129).body.get!) (by kernel_rfl) (by kernel_rfl) (by kernel_rfl) (fun _ => rfl) (Nat.le_of_ble_eq_true (by kernel_rfl)) ?_; unfold Tryz.f129; simp only [Option.get!_some]
  repeat (first | (simp only [go_sem, Nat.reduceEqDiff, Nat.reduceAdd, Nat.reduceSub, Nat.reduceMul, Nat.reduceLeDiff, Nat.reduceLT, reduceIte, reduceCtorEq, Nat.succ_ne_zero, elemsC, Int.reduceToNat, Nat.reducePow]) | (simp (disch := (first | omega | (simp only [AL, List.length_map]; omega))) only [AR, AL, ifT, ifF, take_all, List.length_cons, List.length_nil, Int.reduceToNat, Int.reducePow, Nat.reducePow]) | (refine wk_intro (by kernel_rfl) ?_) | (refine vp_draw (id := 12) (l := [1]) (by kernel_rfl) ?_))
  refine vp_loop_inv (fun s => s.tmp 0 = .sv (.sl l.length xs) ∧ s.tmp 4 = .ptr 4 0 0 ∧ s.obj 4 0 = some [.bool false, .sl 0 [], .sl 0 []] ∧ s.tmp 1 = .sv (.sl m.length ys) ∧ s.tmp 20 = .sv (.sl l.length xs) ∧ s.tmp 21 = .sv (.int .i64 (l.length : Int)) ∧ s.gen 70 = 0 ∧
      ∃ i : Nat, s.tmp 22 = .sv (.int .i64 (i : Int)) ∧ i ≤ l.length)
    (fun s => match s.tmp 22 with | .sv (.int _ i) => l.length - i.toNat | _ => 0) ⟨rfl, rfl, rfl, rfl, rfl, rfl, rfl, 0, rfl, by omega⟩ ?_
  rintro s3 ⟨i0, i4, o4, i1, i20, i21, ig, i, i22, hi⟩
  by_cases hend : i = l.length
  rotate_left
  · obtain ⟨s, n', d, rest, g1, hA⟩ := row_at (i := i) h (by omega)
    obtain ⟨s', n'', d', rest', g2, hB⟩ := row_at (i := i) h2 (by omega)
    have b1 := test_isBelow hA (by omega) (by omega)
    have b2 := test_isBelow hB (by omega) (by omega)
    have b3 := rat_Zero hB (by omega) (by omega)
    have hgi := hgood i (by omega)
    simp only [Bool.or_eq_false_iff] at hgi
    rw [hgi.1] at b1
    rw [hgi.2.1] at b2
    rw [hgi.2.2] at b3
    clear h h2 hA hB hgood hgi s1 s2 zl zm zz ov zo hwz ms hwa
    repeat (first | (simp only [go_sem, Nat.reduceEqDiff, Nat.reduceAdd, Nat.reduceSub, Nat.reduceMul, Nat.reduceLeDiff, Nat.reduceLT, reduceIte, reduceCtorEq, Nat.succ_ne_zero, elemsC, Int.reduceToNat, Nat.reducePow, i0, i4, o4, i1, i20, i21, ig, i22, g1, g2, hlen, hlen2]) | (simp (disch := (first | omega | (simp only [AL, List.length_map]; omega))) only [AR, AL, ifT, ifF, take_all, List.length_cons, List.length_nil, Int.reduceToNat, Int.reducePow, Nat.reducePow, i0, i4, o4, i1, i20, i21, ig, i22, g1, g2, hlen, hlen2]) | (refine wk_intro (by kernel_rfl) ?_) | (refine vp_draw (id := 12) (l := [1]) (by kernel_rfl) ?_) | (refine vf_of (by first | exact b1 | exact b2 | exact b3) ?_))
    exact ⟨⟨i + 1, rfl, by omega⟩, by omega⟩
  subst hend
  clear hgood
  repeat (first | (simp only [go_sem, Nat.reduceEqDiff, Nat.reduceAdd, Nat.reduceSub, Nat.reduceMul, Nat.reduceLeDiff, Nat.reduceLT, reduceIte, reduceCtorEq, Nat.succ_ne_zero, elemsC, Int.reduceToNat, Nat.reducePow, i0, i4, o4, i1, i20, i21, ig, i22]) | (simp (disch := (first | omega | (simp only [AL, List.length_map]; omega))) only [AR, AL, ifT, ifF, take_all, List.length_cons, List.length_nil, Int.reduceToNat, Int.reducePow, Nat.reducePow, i0, i4, o4, i1, i20, i21, ig, i22]) | (refine wk_intro (by kernel_rfl) ?_) | (refine vp_draw (id := 12) (l := [1]) (by kernel_rfl) ?_) | (refine vf_of (by first | exact s1) ?_))
  by_cases c5 : l.length < 2
  · rw [if_pos (.inl c5)]
    clear h h2 zl zm zo hwz hwa
    repeat (first | (simp only [go_sem, Nat.reduceEqDiff, Nat.reduceAdd, Nat.reduceSub, Nat.reduceMul, Nat.reduceLeDiff, Nat.reduceLT, reduceIte, reduceCtorEq, Nat.succ_ne_zero, elemsC, Int.reduceToNat, Nat.reducePow, i0, i4, o4, i1, i20, i21, ig, i22]) | (simp (disch := (first | omega | (simp only [AL, List.length_map]; omega))) only [AR, AL, ifT, ifF, take_all, List.length_cons, List.length_nil, Int.reduceToNat, Int.reducePow, Nat.reducePow, i0, i4, o4, i1, i20, i21, ig, i22]) | (refine wk_intro (by kernel_rfl) ?_) | (refine vp_draw (id := 12) (l := [1]) (by kernel_rfl) ?_) | (refine vf_of (by first | exact r0) ?_))
    rfl
  by_cases c6 : sumR l = 0
  · rw [if_pos (.inr c6)]
    rw [decide_eq_true c6] at zz
    clear h h2 zl zm zo hwz hwa c6
    repeat (first | (simp only [go_sem, Nat.reduceEqDiff, Nat.reduceAdd, Nat.reduceSub, Nat.reduceMul, Nat.reduceLeDiff, Nat.reduceLT, reduceIte, reduceCtorEq, Nat.succ_ne_zero, elemsC, Int.reduceToNat, Nat.reducePow, i0, i4, o4, i1, i20, i21, ig, i22]) | (simp (disch := (first | omega | (simp only [AL, List.length_map]; omega))) only [AR, AL, ifT, ifF, take_all, List.length_cons, List.length_nil, Int.reduceToNat, Int.reducePow, Nat.reducePow, i0, i4, o4, i1, i20, i21, ig, i22]) | (refine wk_intro (by kernel_rfl) ?_) | (refine vp_draw (id := 12) (l := [1]) (by kernel_rfl) ?_) | (refine vf_of (by first | exact zz | exact r0) ?_))
    rfl
  rw [if_neg (fun h => h.elim c5 c6)]
  rw [decide_eq_false c6] at zz
  clear c6
  have hra := fun {i : Nat} (hi : i < m.length) => row_at (i := i) h2 hi
  generalize hE : sumR l / sumR m = e at *
  have mul := fun {y : Rat} {s : Bool} {n d : List Nat} (hy : RatA (ratV s n d) y 1) => rat_Mul (RatA_rv zo) hy (by omega) (by omega) (by omega)
  generalize hW : wantR l m = w at *
  generalize missR l w = q at *
  clear h h2 zl zm hwz hE hW
  repeat (first | (simp only [go_sem, Nat.reduceEqDiff, Nat.reduceAdd, Nat.reduceSub, Nat.reduceMul, Nat.reduceLeDiff, Nat.reduceLT, reduceIte, reduceCtorEq, Nat.succ_ne_zero, elemsC, Int.reduceToNat, Nat.reducePow, i0, i4, o4, i1, i20, i21, ig, i22]) | (simp (disch := (first | omega | (simp only [AL, List.length_map]; omega))) only [AR, AL, ifT, ifF, take_all, List.length_cons, List.length_nil, Int.reduceToNat, Int.reducePow, Nat.reducePow, i0, i4, o4, i1, i20, i21, ig, i22]) | (refine wk_intro (by kernel_rfl) ?_) | (refine vp_draw (id := 12) (l := [1]) (by kernel_rfl) ?_) | (refine vf_of (by first | exact zz | exact s2 | exact ov) ?_))
  refine vp_loop_inv (fun s => s.tmp 0 = .sv (.sl l.length xs) ∧ s.tmp 4 = .ptr 4 0 0 ∧ s.obj 4 0 = some [.bool false, .sl 0 [], .sl 0 []] ∧ s.tmp 10 = .ptr 10 (s3.gen 10) 0 ∧ s.obj 10 (s3.gen 10) = some (rvC e) ∧ s.tmp 59 = .sv (.sl m.length ys) ∧ s.tmp 60 = .sv (.int .i64 (m.length : Int)) ∧
      ∃ i : Nat, s.tmp 61 = .sv (.int .i64 (i : Int)) ∧ i ≤ m.length ∧ ((i = 0 ∧ s.tmp 11 = .nil ∧ s.gen 70 = 0) ∨ (0 < i ∧ s.tmp 11 = .ref 70 0 3 0 i ∧ s.obj 70 0 = some (rvsC (w.take i)))))
    (fun s => match s.tmp 61 with | .sv (.int _ i) => m.length - i.toNat | _ => 0) ⟨i0, i4, ?_, rfl, ?_, rfl, rfl, 0, rfl, by omega, .inl ⟨rfl, rfl, ?_⟩⟩ ?_
  · simp only [go_sem, Nat.reduceEqDiff, Nat.reduceAdd, Nat.reduceSub, Nat.reduceMul, Nat.reduceLeDiff, Nat.reduceLT, reduceIte, reduceCtorEq, Nat.succ_ne_zero, elemsC, Int.reduceToNat, Nat.reducePow, o4]
  · simp only [go_sem, Nat.reduceEqDiff, Nat.reduceAdd, Nat.reduceSub, Nat.reduceMul, Nat.reduceLeDiff, Nat.reduceLT, reduceIte, reduceCtorEq, Nat.succ_ne_zero, elemsC, Int.reduceToNat, Nat.reducePow, rvC]
  · simp only [go_sem, Nat.reduceEqDiff, Nat.reduceAdd, Nat.reduceSub, Nat.reduceMul, Nat.reduceLeDiff, Nat.reduceLT, reduceIte, reduceCtorEq, Nat.succ_ne_zero, elemsC, Int.reduceToNat, Nat.reducePow, ig]
  rintro s4 ⟨j0, j4, p4, j10, p10, j59, j60, i, j61, hi, hc⟩
  by_cases hend : i = m.length
  · subst hend
    rcases hc with ⟨h00, _⟩ | ⟨_, j11, iP⟩
    · omega
    · rw [List.take_of_length_le (by omega)] at iP
      have hrl := rvsC_len w
      have htk : (rvsC w).take (m.length * 3) = rvsC w := List.take_of_length_le (by omega)
      rw [hwl] at ms
      repeat (first | (simp only [go_sem, Nat.reduceEqDiff, Nat.reduceAdd, Nat.reduceSub, Nat.reduceMul, Nat.reduceLeDiff, Nat.reduceLT, reduceIte, reduceCtorEq, Nat.succ_ne_zero, elemsC, Int.reduceToNat, Nat.reducePow, j0, j4, p4, j10, p10, j59, j60, j61, j11, iP, htk, List.drop_zero, N0]) | (simp (disch := (first | omega | (simp only [AL, List.length_map]; omega))) only [AR, AL, ifT, ifF, take_all, List.length_cons, List.length_nil, Int.reduceToNat, Int.reducePow, Nat.reducePow, j0, j4, p4, j10, p10, j59, j60, j61, j11, iP, htk, List.drop_zero, N0]) | (refine wk_intro (by kernel_rfl) ?_) | (refine vp_draw (id := 12) (l := [1]) (by kernel_rfl) ?_) | (refine vf_of (by first | exact ms) ?_))
      refine ro_ref (cs := [.int .i64 ((l.length - 1 : Nat) : Int)]) (by decide) ?_ ?_
      · simp only [go_sem, Nat.reduceEqDiff, Nat.reduceAdd, Nat.reduceSub, Nat.reduceMul, Nat.reduceLeDiff, Nat.reduceLT, reduceIte, reduceCtorEq, Nat.succ_ne_zero, elemsC, Int.reduceToNat, Nat.reducePow]
      · rfl
  · obtain ⟨s, n', d, rest, g1, hA⟩ := hra (i := i) (by omega)
    have mu := mul hA
    have hg := hwa (i := i) (by omega)
    have hsn := rvs_snoc (l := w) (i := i) (by omega)
    rw [hg] at hsn
    have hrl := rvsC_len (w.take i)
    rw [List.length_take, hwl, Nat.min_eq_left (by omega)] at hrl
    generalize e * m.getD i 0 = z at *
    clear hra mul hwa hA ms s1 s2 zz ov zo
    rcases hc with ⟨h00, j11, jg⟩ | ⟨h00, j11, jP⟩
    · subst h00
      rw [List.take_zero, rvsC_nil, List.nil_append] at hsn
      rw [Nat.zero_mul, List.drop_zero] at g1
      subst g1
      repeat (first | (simp only [go_sem, Nat.reduceEqDiff, Nat.reduceAdd, Nat.reduceSub, Nat.reduceMul, Nat.reduceLeDiff, Nat.reduceLT, reduceIte, reduceCtorEq, Nat.succ_ne_zero, elemsC, Int.reduceToNat, Nat.reducePow, j0, j4, p4, j10, p10, j59, j60, j61, j11, jg, rvC, N0]) | (simp (disch := (first | omega | (simp only [AL, List.length_map]; omega))) only [AR, AL, ifT, ifF, take_all, List.length_cons, List.length_nil, Int.reduceToNat, Int.reducePow, Nat.reducePow, j0, j4, p4, j10, p10, j59, j60, j61, j11, jg, rvC, N0]) | (refine wk_intro (by kernel_rfl) ?_) | (refine vp_draw (id := 12) (l := [1]) (by kernel_rfl) ?_) | (refine vf_of (by first | exact mu) ?_))
      exact ⟨⟨1, rfl, by omega, .inr ⟨by omega, rfl, by first | exact hsn | exact congrArg some hsn⟩⟩, by omega⟩
    · unfold rvC at hsn
      repeat (first | (simp only [go_sem, Nat.reduceEqDiff, Nat.reduceAdd, Nat.reduceSub, Nat.reduceMul, Nat.reduceLeDiff, Nat.reduceLT, reduceIte, reduceCtorEq, Nat.succ_ne_zero, elemsC, Int.reduceToNat, Nat.reducePow, j0, j4, p4, j10, p10, j59, j60, j61, j11, jP, g1, hlen2, rvC, N0, hrl]) | (simp (disch := (first | omega | (simp only [AL, List.length_map]; omega))) only [AR, AL, ifT, ifF, take_all, List.length_cons, List.length_nil, Int.reduceToNat, Int.reducePow, Nat.reducePow, j0, j4, p4, j10, p10, j59, j60, j61, j11, jP, g1, hlen2, rvC, N0, hrl]) | (refine wk_intro (by kernel_rfl) ?_) | (refine vp_draw (id := 12) (l := [1]) (by kernel_rfl) ?_) | (refine vf_of (by first | exact mu) ?_))
      exact ⟨⟨i + 1, rfl, by omega, .inr ⟨by omega, rfl, by first | exact hsn | exact congrArg some hsn⟩⟩, by omega⟩
end
end Go.Proofs.YthbjgdmcnonofaaGreat

/- What would be in a table has the sums of what is: plain mathematics. -/
namespace Go.Proofs.YthbjgdmcnonofaaGreat
open Go.Ev
theorem sumR_mulR (x S : Rat) (l : List Rat) : sumR (l.map fun y => x * y / S) = x * sumR l / S := by
  rw [show (fun y => x * y / S) = fun y => (x * S⁻¹) * y by funext y; rw [Rat.div_def]; grind, sumR_scale, Rat.div_def]
  grind
theorem sumR_add2 {α : Type} (l : List α) (f g : α → Rat) : sumR (l.map fun k => f k + g k) = sumR (l.map f) + sumR (l.map g) := by
  induction l with
  | nil => simp only [List.map_nil, sumR_nil]; grind
  | cons x l ih => simp only [List.map_cons, sumR_cons, ih]; grind
theorem range_getD (r : List Rat) {w : Nat} (h : r.length = w) : (List.range w).map (fun k => r.getD k 0) = r := by
  subst h
  refine List.ext_getElem (by simp) fun j h1 h2 => ?_
  rw [List.getElem_map, List.getElem_range, List.getD_eq_getElem?_getD, List.getElem?_eq_getElem h2]
  rfl
theorem sum_cols {T : List (List Rat)} {w : Nat} (hw : ∀ i, i < T.length → (T.getD i []).length = w) : ∀ i, i ≤ T.length → sumR ((List.range w).map fun k => colS T i k) = sumR ((T.take i).map sumR) := by
  intro i
  induction i with
  | zero =>
    intro _
    rw [List.take_zero, List.map_nil, sumR_nil]
    have : ∀ l : List Nat, sumR (l.map fun k => colS T 0 k) = 0 := by
      intro l
      induction l with
      | nil => rfl
      | cons x l ih => rw [List.map_cons, sumR_cons, ih, colS_zero]; grind
    exact this _
  | succ i ih =>
    intro hi
    rw [show (fun k => colS T (i + 1) k) = fun k => colS T i k + (T.getD i []).getD k 0 by funext k; exact colS_step T k (by omega), sumR_add2, ih (by omega), range_getD _ (hw i (by omega))]
    have e : T.take (i + 1) = T.take i ++ [T.getD i []] := by
      rw [List.take_add_one, List.getD_eq_getElem?_getD, List.getElem?_eq_getElem (by omega)]
      rfl
    rw [e, List.map_append]
    exact (sumR_snoc _ _).symm
theorem sumR_pos : ∀ {l : List Rat}, (∀ x ∈ l, 0 < x) → l ≠ [] → 0 < sumR l
  | [], _, h => absurd rfl h
  | [x], h, _ => by rw [sumR_cons, sumR_nil]; have := h x (by simp); grind
  | x :: y :: l, h, _ => by
    rw [sumR_cons]
    have h1 := h x (by simp)
    have h2 := sumR_pos (l := y :: l) (fun z hz => h z (List.mem_cons_of_mem _ hz)) (by simp)
    grind
theorem sumR_nonneg : ∀ {l : List Rat}, (∀ x ∈ l, 0 ≤ x) → 0 ≤ sumR l
  | [], _ => by rw [sumR_nil]; exact Rat.le_refl
  | x :: l, h => by
    rw [sumR_cons]
    have h1 := h x (by simp)
    have h2 := sumR_nonneg (l := l) fun z hz => h z (List.mem_cons_of_mem _ hz)
    grind
theorem expR_sums {T : List (List Rat)} (he : (expR T).2 = 0) : (expR T).1.length = T.length ∧ ∀ i, i < T.length → ((expR T).1.getD i []).length = (T.getD i []).length ∧ sumR ((expR T).1.getD i []) = sumR (T.getD i []) := by
  unfold expR at he ⊢
  by_cases h1 : tabE T ≠ 0
  · rw [if_pos h1] at he; exact absurd he h1
  rw [if_neg h1] at he ⊢
  by_cases h2 : (rowR T ++ colR T).any (fun x => decide (x = 0)) = true
  · rw [if_pos h2] at he; cases he
  rw [if_neg h2]
  have h0 : tabE T = 0 := by omega
  unfold tabE at h0
  by_cases c1 : T.length < 2 ∨ (T.getD 0 []).length < 2
  · rw [if_pos c1] at h0; cases h0
  rw [if_neg c1] at h0
  by_cases c3 : T.any (fun r => decide (r.length ≠ (T.getD 0 []).length)) = true
  · rw [if_pos c3] at h0; cases h0
  rw [if_neg c3] at h0
  by_cases c4 : T.any (fun r => r.any fun x => decide (x < 0)) = true
  · rw [if_pos c4] at h0; cases h0
  have hw : ∀ r ∈ T, r.length = (T.getD 0 []).length := by
    intro r hr
    by_cases e : r.length = (T.getD 0 []).length
    · exact e
    · exact absurd (List.any_eq_true.2 ⟨r, hr, decide_eq_true e⟩) c3
  have hnn : ∀ r ∈ T, ∀ x ∈ r, 0 ≤ x := by
    intro r hr x hx
    by_cases e : x < 0
    · exact absurd (List.any_eq_true.2 ⟨r, hr, List.any_eq_true.2 ⟨x, hx, decide_eq_true e⟩⟩) c4
    · grind
  have hne : ∀ r ∈ T, sumR r ≠ 0 := by
    intro r hr e
    exact h2 (List.any_eq_true.2 ⟨sumR r, List.mem_append_left _ (List.mem_map.2 ⟨r, hr, rfl⟩), decide_eq_true e⟩)
  have hpos : 0 < sumR (rowR T) := by
    refine sumR_pos ?_ ?_
    · intro x hx
      obtain ⟨r, hr, rfl⟩ := List.mem_map.1 hx
      have a := sumR_nonneg (hnn r hr)
      have b := hne r hr
      grind
    · intro e
      have : (rowR T).length = 0 := by rw [e]; rfl
      unfold rowR at this
      rw [List.length_map] at this
      omega
  have hSS : sumR (colR T) = sumR (rowR T) := by
    have hwi : ∀ i, i < T.length → (T.getD i []).length = (T.getD 0 []).length := by
      intro i hi
      refine hw _ ?_
      rw [List.getD_eq_getElem?_getD, List.getElem?_eq_getElem hi]
      exact List.getElem_mem hi
    have := sum_cols hwi T.length (Nat.le_refl _)
    rw [List.take_length] at this
    exact this
  refine ⟨by rw [List.length_map]; simp [rowR], fun i hi => ?_⟩
  have hm : T.getD i [] ∈ T := by
    rw [List.getD_eq_getElem?_getD, List.getElem?_eq_getElem hi]
    exact List.getElem_mem hi
  have hX : ((rowR T).map fun x => (colR T).map fun y => x * y / sumR (rowR T)).getD i [] = (colR T).map fun y => sumR (T.getD i []) * y / sumR (rowR T) := by
    unfold rowR
    rw [List.getD_eq_getElem?_getD, List.getElem?_map, List.getElem?_map, List.getD_eq_getElem?_getD, List.getElem?_eq_getElem hi]
    rfl
  rw [hX]
  refine ⟨by rw [List.length_map, hw _ hm]; simp [colR], ?_⟩
  rw [sumR_mulR, hSS]
  exact Rat.mul_div_cancel (fun e => by rw [e] at hpos; exact absurd hpos (Rat.lt_irrefl))
end Go.Proofs.YthbjgdmcnonofaaGreat

/- Counts that are just what would be have no statistic: plain mathematics. -/
namespace Go.Proofs.YthbjgdmcnonofaaGreat
open Go.Ev
theorem missL_self (l : List Rat) : ∀ x ∈ missL l l, x = 0 := by
  intro x hx
  unfold missL at hx
  obtain ⟨i, hi, rfl⟩ := List.getElem_of_mem hx
  rw [List.getElem_zipWith, Rat.div_def]
  grind
theorem sumR_zero : ∀ {l : List Rat}, (∀ x ∈ l, x = 0) → sumR l = 0
  | [], _ => rfl
  | x :: l, h => by
    rw [sumR_cons, h x List.mem_cons_self, sumR_zero fun y hy => h y (List.mem_cons_of_mem _ hy)]
    grind
theorem fit_even {m : List Rat} {n : Rat} (hn : 0 < n) (hm : ∀ x ∈ m, 0 < x) (h2 : 2 ≤ m.length) : fitR (m.map fun x => n * x) m = (0, [(m.length : Int) - 1], 0) := by
  have hl : (m.map fun x => n * x).length = m.length := List.length_map _
  have hne : m ≠ [] := by rintro rfl; simp at h2
  have hs : sumR (m.map fun x => n * x) = n * sumR m := sumR_scale n m
  have hp := sumR_pos hm hne
  have hw : wantR (m.map fun x => n * x) m = m.map fun x => n * x := by
    unfold wantR
    refine List.map_congr_left fun x _ => ?_
    rw [hs, div_uniq (y := n) (by grind) rfl]
  unfold fitR
  rw [if_neg (by rw [hl]; exact not_not_intro rfl), if_neg, if_neg, hw, hl]
  · show (missR _ _, _) = _
    rw [show missR (m.map fun x => n * x) (m.map fun x => n * x) = 0 from sumR_zero (missL_self _)]
  · rintro (h | h)
    · rw [hl] at h; omega
    · rw [hs] at h
      rcases Rat.mul_eq_zero.1 h with h | h <;> grind
  · intro h
    obtain ⟨i, hi, hb⟩ := List.any_eq_true.1 h
    rw [List.mem_range, hl] at hi
    have hx := hm _ (getD_mem (l := m) hi)
    unfold badF at hb
    rw [getD_map m _ hi] at hb
    have h3 : 0 < n * m.getD i 0 := Rat.mul_pos hn hx
    rw [decide_eq_false (by grind), decide_eq_false (by grind)] at hb
    cases hb
end Go.Proofs.YthbjgdmcnonofaaGreat

/- test.raw, isChi, Statistic, in the evaluator. -/
namespace Go.Proofs.YthbjgdmcnonofaaGreat
set_option linter.unusedSimpArgs false
set_option linter.unusedVariables false
set_option maxRecDepth 8000
open Go.Ev
/-- A statistic that is told, if it is not too great. -/
def statR (kind : Int) (r : Res) : Res :=
  if r.2.2 ≠ 0 then (0, [], r.2.2) else if r.2.1.any (fun d => decide (256 < d)) = true then (0, [], 7) else if (kind = 1 ∨ kind = 6 ∨ kind = 7) ∧ 128 < r.1 then (0, [], 7) else (r.1, r.2.1, 0)
theorem test_isChi (kind : Int) : Go.Ev.Fn CX 66 [.int .i64 kind] (.bool (decide (kind = 1 ∨ kind = 6 ∨ kind = 7))) := by
  by_cases h1 : kind = 1
  · subst h1
    rw [decide_eq_true (by omega)]
    refine Go.Ev.Fn.intro (fn := Tryz.f66) (body := (Tryz.f66).body.get!) (by kernel_rfl) (by kernel_rfl) (by kernel_rfl) (fun _ => rfl) (Nat.le_of_ble_eq_true (by kernel_rfl)) ?_; unfold Tryz.f66; simp only [Option.get!_some]
    repeat (first | (simp only [go_sem, Nat.reduceEqDiff, Nat.reduceAdd, Nat.reduceSub, Nat.reduceMul, Nat.reduceLeDiff, Nat.reduceLT, reduceIte, reduceCtorEq, Nat.succ_ne_zero, elemsC, Int.reduceToNat, Nat.reducePow]) | (simp (disch := (first | omega | (simp only [AL, List.length_map]; omega))) only [AR, AL, ifT, ifF, take_all, List.length_cons, List.length_nil, Int.reduceToNat, Int.reducePow, Nat.reducePow]) | (refine wk_intro (by kernel_rfl) ?_))
  by_cases h2 : kind = 6
  · subst h2
    rw [decide_eq_true (by omega)]
    refine Go.Ev.Fn.intro (fn := Tryz.f66) (body := (Tryz.f66).body.get!) (by kernel_rfl) (by kernel_rfl) (by kernel_rfl) (fun _ => rfl) (Nat.le_of_ble_eq_true (by kernel_rfl)) ?_; unfold Tryz.f66; simp only [Option.get!_some]
    repeat (first | (simp only [go_sem, Nat.reduceEqDiff, Nat.reduceAdd, Nat.reduceSub, Nat.reduceMul, Nat.reduceLeDiff, Nat.reduceLT, reduceIte, reduceCtorEq, Nat.succ_ne_zero, elemsC, Int.reduceToNat, Nat.reducePow]) | (simp (disch := (first | omega | (simp only [AL, List.length_map]; omega))) only [AR, AL, ifT, ifF, take_all, List.length_cons, List.length_nil, Int.reduceToNat, Int.reducePow, Nat.reducePow]) | (refine wk_intro (by kernel_rfl) ?_))
  by_cases h3 : kind = 7
  · subst h3
    rw [decide_eq_true (by omega)]
    refine Go.Ev.Fn.intro (fn := Tryz.f66) (body := (Tryz.f66).body.get!) (by kernel_rfl) (by kernel_rfl) (by kernel_rfl) (fun _ => rfl) (Nat.le_of_ble_eq_true (by kernel_rfl)) ?_; unfold Tryz.f66; simp only [Option.get!_some]
    repeat (first | (simp only [go_sem, Nat.reduceEqDiff, Nat.reduceAdd, Nat.reduceSub, Nat.reduceMul, Nat.reduceLeDiff, Nat.reduceLT, reduceIte, reduceCtorEq, Nat.succ_ne_zero, elemsC, Int.reduceToNat, Nat.reducePow]) | (simp (disch := (first | omega | (simp only [AL, List.length_map]; omega))) only [AR, AL, ifT, ifF, take_all, List.length_cons, List.length_nil, Int.reduceToNat, Int.reducePow, Nat.reducePow]) | (refine wk_intro (by kernel_rfl) ?_))
  rw [decide_eq_false (by omega)]
  refine Go.Ev.Fn.intro (fn := Tryz.f66) (body := (Tryz.f66).body.get!) (by kernel_rfl) (by kernel_rfl) (by kernel_rfl) (fun _ => rfl) (Nat.le_of_ble_eq_true (by kernel_rfl)) ?_; unfold Tryz.f66; simp only [Option.get!_some]
  repeat (first | (simp only [go_sem, Nat.reduceEqDiff, Nat.reduceAdd, Nat.reduceSub, Nat.reduceMul, Nat.reduceLeDiff, Nat.reduceLT, reduceIte, reduceCtorEq, Nat.succ_ne_zero, elemsC, Int.reduceToNat, Nat.reducePow]) | (simp (disch := (first | omega | (simp only [AL, List.length_map]; omega))) only [AR, AL, ifT, ifF, take_all, List.length_cons, List.length_nil, Int.reduceToNat, Int.reducePow, Nat.reducePow]) | (refine wk_intro (by kernel_rfl) ?_))
section
variable {kind k n : Int} {X Y tn : Nat} {xs ys tc : List SV} {sm ss : Bool} {nm dm ns ds : List Nat}
theorem raw_T {l : List Rat} {mu : Rat} {L M : Nat} (h : RowC xs l L) (hL : 1 ≤ L) (hL2 : L ≤ 100) (hm : RatA (ratV sm nm dm) mu M) (hM : 1 ≤ M) (hM2 : M ≤ 100) (hl : l.length ≤ 12) (hY : Y ≤ 256) :
    Go.Ev.Fn CX 65 [testV 2 (.sl l.length xs) (.sl Y ys) (.sl tn tc) sm nm dm ss ns ds k n] (resV (stuR l mu)) := by
  have s1 := test_student h hm hL hL2 hM hM2 hl
  clear h hm
  refine Go.Ev.Fn.intro (fn := Tryz.f65) (body := (Tryz.f65).body.get!) (by kernel_rfl) (by kernel_rfl) (by kernel_rfl) (fun _ => rfl) (Nat.le_of_ble_eq_true (by kernel_rfl)) ?_; unfold Tryz.f65; simp only [Option.get!_some]
  repeat (first | (simp only [go_sem, Nat.reduceEqDiff, Nat.reduceAdd, Nat.reduceSub, Nat.reduceMul, Nat.reduceLeDiff, Nat.reduceLT, reduceIte, reduceCtorEq, Nat.succ_ne_zero, elemsC, Int.reduceToNat, Nat.reducePow]) | (simp (disch := (first | omega | (simp only [AL, List.length_map]; omega))) only [AR, AL, ifT, ifF, take_all, List.length_cons, List.length_nil, Int.reduceToNat, Int.reducePow, Nat.reducePow]) | (refine wk_intro (by kernel_rfl) ?_) | (refine vf_of (by first | exact s1) ?_))
theorem raw_paired {l m : List Rat} (h : RowC xs l 1) (h2 : RowC ys m 1) (hl : l.length ≤ 12) (hm : m.length ≤ 12) :
    Go.Ev.Fn CX 65 [testV 3 (.sl l.length xs) (.sl m.length ys) (.sl tn tc) sm nm dm ss ns ds k n] (resV (if l.length ≠ m.length then (0, [], 1) else stuR (List.zipWith (fun a b => a - b) l m) 0)) := by
  have s1 := test_paired h h2 hl hm
  generalize (if l.length ≠ m.length then ((0 : Rat), ([] : List Int), (1 : Int)) else stuR (List.zipWith (fun a b => a - b) l m) 0) = r at *
  clear h h2
  refine Go.Ev.Fn.intro (fn := Tryz.f65) (body := (Tryz.f65).body.get!) (by kernel_rfl) (by kernel_rfl) (by kernel_rfl) (fun _ => rfl) (Nat.le_of_ble_eq_true (by kernel_rfl)) ?_; unfold Tryz.f65; simp only [Option.get!_some]
  repeat (first | (simp only [go_sem, Nat.reduceEqDiff, Nat.reduceAdd, Nat.reduceSub, Nat.reduceMul, Nat.reduceLeDiff, Nat.reduceLT, reduceIte, reduceCtorEq, Nat.succ_ne_zero, elemsC, Int.reduceToNat, Nat.reducePow]) | (simp (disch := (first | omega | (simp only [AL, List.length_map]; omega))) only [AR, AL, ifT, ifF, take_all, List.length_cons, List.length_nil, Int.reduceToNat, Int.reducePow, Nat.reducePow]) | (refine wk_intro (by kernel_rfl) ?_) | (refine vf_of (by first | exact s1) ?_))
theorem raw_pooled {l m : List Rat} (h : RowC xs l 1) (h2 : RowC ys m 1) (hl : l.length ≤ 12) (hm : m.length ≤ 12) :
    Go.Ev.Fn CX 65 [testV 4 (.sl l.length xs) (.sl m.length ys) (.sl tn tc) sm nm dm ss ns ds k n] (resV (poolR l m)) := by
  have s1 := test_pooled h h2 hl hm
  clear h h2
  refine Go.Ev.Fn.intro (fn := Tryz.f65) (body := (Tryz.f65).body.get!) (by kernel_rfl) (by kernel_rfl) (by kernel_rfl) (fun _ => rfl) (Nat.le_of_ble_eq_true (by kernel_rfl)) ?_; unfold Tryz.f65; simp only [Option.get!_some]
  repeat (first | (simp only [go_sem, Nat.reduceEqDiff, Nat.reduceAdd, Nat.reduceSub, Nat.reduceMul, Nat.reduceLeDiff, Nat.reduceLT, reduceIte, reduceCtorEq, Nat.succ_ne_zero, elemsC, Int.reduceToNat, Nat.reducePow]) | (simp (disch := (first | omega | (simp only [AL, List.length_map]; omega))) only [AR, AL, ifT, ifF, take_all, List.length_cons, List.length_nil, Int.reduceToNat, Int.reducePow, Nat.reducePow]) | (refine wk_intro (by kernel_rfl) ?_) | (refine vf_of (by first | exact s1) ?_))
theorem raw_fisher {l m : List Rat} (h : RowC xs l 1) (h2 : RowC ys m 1) (hl : l.length ≤ 12) (hm : m.length ≤ 12) :
    Go.Ev.Fn CX 65 [testV 5 (.sl l.length xs) (.sl m.length ys) (.sl tn tc) sm nm dm ss ns ds k n] (resV (fisR l m)) := by
  have s1 := test_fisher h h2 hl hm
  clear h h2
  refine Go.Ev.Fn.intro (fn := Tryz.f65) (body := (Tryz.f65).body.get!) (by kernel_rfl) (by kernel_rfl) (by kernel_rfl) (fun _ => rfl) (Nat.le_of_ble_eq_true (by kernel_rfl)) ?_; unfold Tryz.f65; simp only [Option.get!_some]
  repeat (first | (simp only [go_sem, Nat.reduceEqDiff, Nat.reduceAdd, Nat.reduceSub, Nat.reduceMul, Nat.reduceLeDiff, Nat.reduceLT, reduceIte, reduceCtorEq, Nat.succ_ne_zero, elemsC, Int.reduceToNat, Nat.reducePow]) | (simp (disch := (first | omega | (simp only [AL, List.length_map]; omega))) only [AR, AL, ifT, ifF, take_all, List.length_cons, List.length_nil, Int.reduceToNat, Int.reducePow, Nat.reducePow]) | (refine wk_intro (by kernel_rfl) ?_) | (refine vf_of (by first | exact s1) ?_))
theorem test_Statistic {r : Res} (h : Go.Ev.Fn CX 65 [testV kind (.sl X xs) (.sl Y ys) (.sl tn tc) sm nm dm ss ns ds k n] (resV r)) (hz : szR r.1 1000000) (hd : r.2.1.length ≤ 1000) :
    Go.Ev.Fn CX 23 [testV kind (.sl X xs) (.sl Y ys) (.sl tn tc) sm nm dm ss ns ds k n] (resV (statR kind r)) := by
  obtain ⟨q, dg, e⟩ := r
  unfold statR
  have r0 := rat_Int 0 (by omega)
  have r1 := rat_Int 128 (by omega)
  have hc := test_isChi kind
  have h2 := rat_Cmp (RatA_rv hz) (RatA_rv (int_szR (n := 128) (by omega))) (by omega) (by omega) (by omega)
  have e2 : decide (cmpR q ((128 : Int) : Rat) > 0) = decide (128 < q) := cmpR_gt
  have hat := fun {i : Nat} (h : i < dg.length) => ints_at dg h
  have hln : (dg.map fun i => SV.int .i64 i).length = dg.length := List.length_map _
  simp only at h hz hd ⊢
  by_cases he : e = 0
  · subst he
    rw [if_neg (by simp)]
    have h' : Go.Ev.Fn CX 65 [testV kind (.sl X xs) (.sl Y ys) (.sl tn tc) sm nm dm ss ns ds k n] (.tup [rv q, .sl dg.length (dg.map fun i => SV.int .i64 i), .int .i64 0]) := h
    generalize hcs : (dg.map fun i => SV.int .i64 i) = cs at *
    clear h hz
    by_cases hany : dg.any (fun d => decide (256 < d)) = true
    · rw [if_pos hany]
      refine Go.Ev.Fn.intro (fn := Tryz.f23) (body := (Tryz.f23).body.get!) (by kernel_rfl) (by kernel_rfl) (by kernel_rfl) (fun _ => rfl) (Nat.le_of_ble_eq_true (by kernel_rfl)) ?_; unfold Tryz.f23; simp only [Option.get!_some]
      repeat (first | (simp only [go_sem, Nat.reduceEqDiff, Nat.reduceAdd, Nat.reduceSub, Nat.reduceMul, Nat.reduceLeDiff, Nat.reduceLT, reduceIte, reduceCtorEq, Nat.succ_ne_zero, elemsC, Int.reduceToNat, Nat.reducePow]) | (simp (disch := (first | omega | (simp only [AL, List.length_map]; omega))) only [AR, AL, ifT, ifF, take_all, List.length_cons, List.length_nil, Int.reduceToNat, Int.reducePow, Nat.reducePow]) | (refine wk_intro (by kernel_rfl) ?_) | (refine vp_draw (id := 10) (l := []) (by kernel_rfl) ?_) | (refine vf_of (by first | exact h') ?_))
      refine vp_loop_inv (fun s => s.tmp 2 = .ptr 2 0 0 ∧ s.obj 2 0 = some [.bool false, .sl 0 [], .sl 0 []] ∧ s.tmp 20 = .sv (.sl dg.length cs) ∧ s.tmp 21 = .sv (.int .i64 (dg.length : Int)) ∧
          ∃ i : Nat, s.tmp 22 = .sv (.int .i64 (i : Int)) ∧ i ≤ dg.length ∧ (dg.take i).any (fun d => decide (256 < d)) = false)
        (fun s => match s.tmp 22 with | .sv (.int _ i) => dg.length - i.toNat | _ => 0) ⟨rfl, rfl, rfl, rfl, 0, rfl, by omega, rfl⟩ ?_
      rintro s2 ⟨i2, iO, i20, i21, i, i22, hi, hb⟩
      by_cases hend : i = dg.length
      · subst hend
        rw [List.take_length, hany] at hb
        cases hb
      · have g1 := hat (i := i) (by omega)
        have hor := any_take (fun d => decide (256 < d)) dg (0 : Int) (i := i) (by omega)
        rw [hb, Bool.false_or] at hor
        generalize dg.getD i 0 = d at *
        clear hat hany
        by_cases hdd : 256 < d
        · clear hor
          repeat (first | (simp only [go_sem, Nat.reduceEqDiff, Nat.reduceAdd, Nat.reduceSub, Nat.reduceMul, Nat.reduceLeDiff, Nat.reduceLT, reduceIte, reduceCtorEq, Nat.succ_ne_zero, elemsC, Int.reduceToNat, Nat.reducePow, i2, iO, i20, i21, i22, g1, hln]) | (simp (disch := (first | omega | (simp only [AL, List.length_map]; omega))) only [AR, AL, ifT, ifF, take_all, List.length_cons, List.length_nil, Int.reduceToNat, Int.reducePow, Nat.reducePow, i2, iO, i20, i21, i22, g1, hln]) | (refine wk_intro (by kernel_rfl) ?_) | (refine vp_draw (id := 10) (l := []) (by kernel_rfl) ?_) | (refine vf_of (by first | exact r0) ?_))
          rfl
        · rw [decide_eq_false hdd] at hor
          repeat (first | (simp only [go_sem, Nat.reduceEqDiff, Nat.reduceAdd, Nat.reduceSub, Nat.reduceMul, Nat.reduceLeDiff, Nat.reduceLT, reduceIte, reduceCtorEq, Nat.succ_ne_zero, elemsC, Int.reduceToNat, Nat.reducePow, i2, iO, i20, i21, i22, g1, hln]) | (simp (disch := (first | omega | (simp only [AL, List.length_map]; omega))) only [AR, AL, ifT, ifF, take_all, List.length_cons, List.length_nil, Int.reduceToNat, Int.reducePow, Nat.reducePow, i2, iO, i20, i21, i22, g1, hln]) | (refine wk_intro (by kernel_rfl) ?_) | (refine vp_draw (id := 10) (l := []) (by kernel_rfl) ?_))
          exact ⟨⟨i + 1, rfl, by omega, hor⟩, by omega⟩
    · rw [if_neg hany]
      have hall : ∀ i, i < dg.length → dg.getD i 0 ≤ 256 := by
        intro i hi
        have := fun h => hany (any_of_getD (fun d => decide (256 < d)) dg (0 : Int) hi h)
        have h3 : ¬ 256 < dg.getD i 0 := fun h => this (decide_eq_true h)
        omega
      clear hany
      refine Go.Ev.Fn.intro (fn := Tryz.f23) (body := (Tryz.f23).body.get!) (by kernel_rfl) (by kernel_rfl) (by kernel_rfl) (fun _ => rfl) (Nat.le_of_ble_eq_true (by kernel_rfl)) ?_; unfold Tryz.f23; simp only [Option.get!_some]
      repeat (first | (simp only [go_sem, Nat.reduceEqDiff, Nat.reduceAdd, Nat.reduceSub, Nat.reduceMul, Nat.reduceLeDiff, Nat.reduceLT, reduceIte, reduceCtorEq, Nat.succ_ne_zero, elemsC, Int.reduceToNat, Nat.reducePow]) | (simp (disch := (first | omega | (simp only [AL, List.length_map]; omega))) only [AR, AL, ifT, ifF, take_all, List.length_cons, List.length_nil, Int.reduceToNat, Int.reducePow, Nat.reducePow]) | (refine wk_intro (by kernel_rfl) ?_) | (refine vp_draw (id := 10) (l := []) (by kernel_rfl) ?_) | (refine vf_of (by first | exact h') ?_))
      refine vp_loop_inv (fun s => s.tmp 1 = .ptr 1 0 0 ∧ s.obj 1 0 = some [.int .i64 kind, .sl X xs, .sl Y ys, .sl tn tc, .bool sm, natV nm, natV dm, .bool ss, natV ns, natV ds, .int .i64 k, .int .i64 n] ∧ s.tmp 2 = .ptr 2 0 0 ∧ s.obj 2 0 = some [.bool false, .sl 0 [], .sl 0 []] ∧ s.tmp 5 = .ptr 5 0 0 ∧ s.obj 5 0 = some (rvC q) ∧ s.tmp 6 = .sv (.sl dg.length cs) ∧ s.tmp 20 = .sv (.sl dg.length cs) ∧ s.tmp 21 = .sv (.int .i64 (dg.length : Int)) ∧
          ∃ i : Nat, s.tmp 22 = .sv (.int .i64 (i : Int)) ∧ i ≤ dg.length)
        (fun s => match s.tmp 22 with | .sv (.int _ i) => dg.length - i.toNat | _ => 0) ⟨rfl, rfl, rfl, rfl, rfl, rfl, rfl, rfl, rfl, 0, rfl, by omega⟩ ?_
      rintro s2 ⟨i1, oA, i2, iO, i5, oB, i6, i20, i21, i, i22, hi⟩
      by_cases hend : i = dg.length
      · subst hend
        clear hall hat
        by_cases hk : kind = 1 ∨ kind = 6 ∨ kind = 7
        · rw [decide_eq_true hk] at hc
          by_cases hq : 128 < q
          · rw [if_pos ⟨hk, hq⟩]
            rw [decide_eq_true hq] at e2
            clear hk hq
            repeat (first | (simp only [go_sem, Nat.reduceEqDiff, Nat.reduceAdd, Nat.reduceSub, Nat.reduceMul, Nat.reduceLeDiff, Nat.reduceLT, reduceIte, reduceCtorEq, Nat.succ_ne_zero, elemsC, Int.reduceToNat, Nat.reducePow, i1, oA, i2, iO, i5, oB, i6, i20, i21, i22, rvC, e2]) | (simp (disch := (first | omega | (simp only [AL, List.length_map]; omega))) only [AR, AL, ifT, ifF, take_all, List.length_cons, List.length_nil, Int.reduceToNat, Int.reducePow, Nat.reducePow, i1, oA, i2, iO, i5, oB, i6, i20, i21, i22, rvC, e2]) | (refine wk_intro (by kernel_rfl) ?_) | (refine vp_draw (id := 10) (l := []) (by kernel_rfl) ?_) | (refine vf_of (by first | exact hc | exact r1 | exact h2 | exact r0) ?_))
            rfl
          · rw [if_neg (fun h => hq h.2)]
            rw [decide_eq_false hq] at e2
            clear hk hq
            repeat (first | (simp only [go_sem, Nat.reduceEqDiff, Nat.reduceAdd, Nat.reduceSub, Nat.reduceMul, Nat.reduceLeDiff, Nat.reduceLT, reduceIte, reduceCtorEq, Nat.succ_ne_zero, elemsC, Int.reduceToNat, Nat.reducePow, i1, oA, i2, iO, i5, oB, i6, i20, i21, i22, rvC, e2]) | (simp (disch := (first | omega | (simp only [AL, List.length_map]; omega))) only [AR, AL, ifT, ifF, take_all, List.length_cons, List.length_nil, Int.reduceToNat, Int.reducePow, Nat.reducePow, i1, oA, i2, iO, i5, oB, i6, i20, i21, i22, rvC, e2]) | (refine wk_intro (by kernel_rfl) ?_) | (refine vp_draw (id := 10) (l := []) (by kernel_rfl) ?_) | (refine vf_of (by first | exact hc | exact r1 | exact h2) ?_))
            rw [hcs]
        · rw [if_neg (fun h => hk h.1)]
          rw [decide_eq_false hk] at hc
          clear hk
          repeat (first | (simp only [go_sem, Nat.reduceEqDiff, Nat.reduceAdd, Nat.reduceSub, Nat.reduceMul, Nat.reduceLeDiff, Nat.reduceLT, reduceIte, reduceCtorEq, Nat.succ_ne_zero, elemsC, Int.reduceToNat, Nat.reducePow, i1, oA, i2, iO, i5, oB, i6, i20, i21, i22, rvC]) | (simp (disch := (first | omega | (simp only [AL, List.length_map]; omega))) only [AR, AL, ifT, ifF, take_all, List.length_cons, List.length_nil, Int.reduceToNat, Int.reducePow, Nat.reducePow, i1, oA, i2, iO, i5, oB, i6, i20, i21, i22, rvC]) | (refine wk_intro (by kernel_rfl) ?_) | (refine vp_draw (id := 10) (l := []) (by kernel_rfl) ?_) | (refine vf_of (by first | exact hc) ?_))
          rw [hcs]
      · have g1 := hat (i := i) (by omega)
        have g2 := hall i (by omega)
        generalize dg.getD i 0 = d at *
        clear hat hall
        repeat (first | (simp only [go_sem, Nat.reduceEqDiff, Nat.reduceAdd, Nat.reduceSub, Nat.reduceMul, Nat.reduceLeDiff, Nat.reduceLT, reduceIte, reduceCtorEq, Nat.succ_ne_zero, elemsC, Int.reduceToNat, Nat.reducePow, i1, oA, i2, iO, i5, oB, i6, i20, i21, i22, g1, hln]) | (simp (disch := (first | omega | (simp only [AL, List.length_map]; omega))) only [AR, AL, ifT, ifF, take_all, List.length_cons, List.length_nil, Int.reduceToNat, Int.reducePow, Nat.reducePow, i1, oA, i2, iO, i5, oB, i6, i20, i21, i22, g1, hln]) | (refine wk_intro (by kernel_rfl) ?_) | (refine vp_draw (id := 10) (l := []) (by kernel_rfl) ?_))
        exact ⟨⟨i + 1, rfl, by omega⟩, by omega⟩
  · rw [if_pos he]
    have h' : Go.Ev.Fn CX 65 [testV kind (.sl X xs) (.sl Y ys) (.sl tn tc) sm nm dm ss ns ds k n] (.tup [rv q, .sl dg.length (dg.map fun i => SV.int .i64 i), .int .i64 e]) := h
    clear h hz
    refine Go.Ev.Fn.intro (fn := Tryz.f23) (body := (Tryz.f23).body.get!) (by kernel_rfl) (by kernel_rfl) (by kernel_rfl) (fun _ => rfl) (Nat.le_of_ble_eq_true (by kernel_rfl)) ?_; unfold Tryz.f23; simp only [Option.get!_some]
    repeat (first | (simp only [go_sem, Nat.reduceEqDiff, Nat.reduceAdd, Nat.reduceSub, Nat.reduceMul, Nat.reduceLeDiff, Nat.reduceLT, reduceIte, reduceCtorEq, Nat.succ_ne_zero, elemsC, Int.reduceToNat, Nat.reducePow]) | (simp (disch := (first | omega | (simp only [AL, List.length_map]; omega))) only [AR, AL, ifT, ifF, take_all, List.length_cons, List.length_nil, Int.reduceToNat, Int.reducePow, Nat.reducePow]) | (refine wk_intro (by kernel_rfl) ?_) | (refine vp_draw (id := 10) (l := []) (by kernel_rfl) ?_) | (refine vf_of (by first | exact h' | exact r0) ?_))
    rfl
end
end Go.Proofs.YthbjgdmcnonofaaGreat

/- vernierlaw19: TestMoves, TestPairs, TestTurns, in the evaluator. -/
namespace Go.Proofs.YthbjgdmcnonofaaGreat
set_option linter.unusedSimpArgs false
set_option linter.unusedVariables false
set_option maxRecDepth 8000
open Go.Ev
theorem sz_stu {l : List Rat} {mu : Rat} (h : ∀ x ∈ l, szR x 10) (hm : szR mu 10) (hl : l.length ≤ 12) : szR (stuR l mu).1 1000000 := by
  unfold stuR
  by_cases c1 : l.length < 2
  · rw [if_pos c1]; exact szR_zero (by omega)
  rw [if_neg c1]
  by_cases c2 : varR l = 0
  · rw [if_pos c2]; exact szR_zero (by omega)
  rw [if_neg c2]
  have zd := szR_sub (sz_mean (by omega) h hl) hm (by omega)
  exact szR_mono (szR_div (szR_mul (int_szR (n := (l.length : Int)) (by omega)) (szR_mul zd zd (by omega)) (by omega)) (sz_var (by omega) h hl) (by omega) (by omega)) (by omega)
theorem sz_pool {l m : List Rat} (h : ∀ x ∈ l, szR x 10) (h2 : ∀ x ∈ m, szR x 10) (hl : l.length ≤ 12) (hm : m.length ≤ 12) : szR (poolR l m).1 1000000 := by
  unfold poolR
  split
  · exact szR_zero (by omega)
  split
  · exact szR_zero (by omega)
  have zd := szR_sub (sz_mean (by omega) h hl) (sz_mean (by omega) h2 hm) (by omega)
  have hlm := Nat.mul_le_mul hl hm
  have elm : (l.length : Int) * (m.length : Int) = ((l.length * m.length : Nat) : Int) := (Int.natCast_mul _ _).symm
  have zv := szR_div (M := 2) (szR_add (sz_sq (by omega) h hl) (sz_sq (by omega) h2 hm) (by omega)) (int_szR (n := (l.length : Int) + (m.length : Int) - 2) (by omega)) (by omega) (by omega)
  have zw := szR_div (M := 2) (int_szR (n := (l.length : Int) + (m.length : Int)) (by omega)) (int_szR (n := (l.length : Int) * (m.length : Int)) (by rw [elm]; omega)) (by omega) (by omega)
  exact szR_mono (szR_div (szR_mul zd zd (by omega)) (szR_mul zv zw (by omega)) (by omega) (by omega)) (by omega)
theorem sz_fis {l m : List Rat} (h : ∀ x ∈ l, szR x 10) (h2 : ∀ x ∈ m, szR x 10) (hl : l.length ≤ 12) (hm : m.length ≤ 12) : szR (fisR l m).1 1000000 := by
  unfold fisR
  split
  · exact szR_zero (by omega)
  split
  · exact szR_zero (by omega)
  exact szR_mono (szR_div (sz_var (by omega) h hl) (sz_var (by omega) h2 hm) (by omega) (by omega)) (by omega)
theorem statR_stu {kind : Int} {l : List Rat} {mu : Rat} (hl : l.length ≤ 12) (hk : kind = 2 ∨ kind = 3) : statR kind (stuR l mu) = stuR l mu := by
  unfold stuR
  by_cases c1 : l.length < 2
  · rw [if_pos c1]; rfl
  rw [if_neg c1]
  by_cases c2 : varR l = 0
  · rw [if_pos c2]; rfl
  rw [if_neg c2]
  unfold statR
  simp only
  rw [if_neg (by simp), if_neg (by simp; omega), if_neg (fun h => by omega)]
theorem statR_pool {l m : List Rat} (hl : l.length ≤ 12) (hm : m.length ≤ 12) : statR 4 (poolR l m) = poolR l m := by
  unfold poolR
  split
  · rfl
  split
  · rfl
  unfold statR
  simp only
  rw [if_neg (by simp), if_neg (by simp; omega), if_neg (fun h => by omega)]
theorem statR_fis {l m : List Rat} (hl : l.length ≤ 12) (hm : m.length ≤ 12) : statR 5 (fisR l m) = fisR l m := by
  unfold fisR
  split
  · rfl
  split
  · rfl
  unfold statR
  simp only
  rw [if_neg (by simp), if_neg (by simp; omega), if_neg (fun h => by omega)]
theorem deg_stu {l : List Rat} {mu : Rat} : (stuR l mu).2.1.length ≤ 1000 := by
  unfold stuR
  split
  · simp
  split <;> simp
theorem deg_pool {l m : List Rat} : (poolR l m).2.1.length ≤ 1000 := by
  unfold poolR
  split
  · simp
  split <;> simp
theorem deg_fis {l m : List Rat} : (fisR l m).2.1.length ≤ 1000 := by
  unfold fisR
  split
  · simp
  split <;> simp
theorem row_sz10 {l : List Rat} {cs : List SV} (h : RowC cs l 1) : ∀ x ∈ l, szR x 10 := fun x hx => szR_mono (row_sz (by omega) h x hx) (by omega)
/-- A row's test is told. -/
theorem stat_T {xs : List SV} {l : List Rat} {M : Nat} {sm : Bool} {nm dm : List Nat} {mu : Rat} (h : RowC xs l M) (hM : 1 ≤ M) (hM2 : M ≤ 10) (hm : RatA (ratV sm nm dm) mu 10) (hl : l.length ≤ 12) :
    Go.Ev.Fn CX 23 [testV 2 (.sl l.length xs) (.sl 0 []) (.sl 0 []) sm nm dm false [] [] 0 0] (resV (stuR l mu)) := by
  have h1 := raw_T (Y := 0) (ys := []) (tn := 0) (tc := []) (ss := false) (ns := []) (ds := []) (k := 0) (n := 0) h hM (by omega) hm (by omega) (by omega) hl (by omega)
  have h2 := test_Statistic h1 (sz_stu (fun x hx => szR_mono (row_sz hM h x hx) hM2) (szR_of hm (by omega)) hl) deg_stu
  rw [statR_stu hl (.inl rfl)] at h2
  exact h2
theorem stat_paired {xs ys : List SV} {l m : List Rat} (h : RowC xs l 1) (h2 : RowC ys m 1) (hl : l.length ≤ 12) (hm : m.length = l.length) :
    Go.Ev.Fn CX 23 [testV 3 (.sl l.length xs) (.sl m.length ys) (.sl 0 []) false [] [] false [] [] 0 0] (resV (stuR (List.zipWith (fun a b => a - b) l m) 0)) := by
  have h1 := raw_paired (tn := 0) (tc := []) (sm := false) (nm := []) (dm := []) (ss := false) (ns := []) (ds := []) (k := 0) (n := 0) h h2 hl (by omega)
  rw [if_neg (by omega)] at h1
  have hz : ∀ x ∈ List.zipWith (fun a b => a - b) l m, szR x 10 := by
    intro x hx
    obtain ⟨i, hi, rfl⟩ := List.getElem_of_mem hx
    rw [List.getElem_zipWith]
    exact szR_mono (szR_sub (row_sz (by omega) h _ (List.getElem_mem _)) (row_sz (by omega) h2 _ (List.getElem_mem _)) (by omega)) (by omega)
  have h3 := test_Statistic h1 (sz_stu hz (szR_zero (by omega)) (by rw [List.length_zipWith]; omega)) deg_stu
  rw [statR_stu (by rw [List.length_zipWith]; omega) (.inr rfl)] at h3
  exact h3
theorem stat_pooled {xs ys : List SV} {l m : List Rat} (h : RowC xs l 1) (h2 : RowC ys m 1) (hl : l.length ≤ 12) (hm : m.length ≤ 12) :
    Go.Ev.Fn CX 23 [testV 4 (.sl l.length xs) (.sl m.length ys) (.sl 0 []) false [] [] false [] [] 0 0] (resV (poolR l m)) := by
  have h1 := raw_pooled (tn := 0) (tc := []) (sm := false) (nm := []) (dm := []) (ss := false) (ns := []) (ds := []) (k := 0) (n := 0) h h2 hl hm
  have h3 := test_Statistic h1 (sz_pool (row_sz10 h) (row_sz10 h2) hl hm) deg_pool
  rw [statR_pool hl hm] at h3
  exact h3
theorem stat_fisher {xs ys : List SV} {l m : List Rat} (h : RowC xs l 1) (h2 : RowC ys m 1) (hl : l.length ≤ 12) (hm : m.length ≤ 12) :
    Go.Ev.Fn CX 23 [testV 5 (.sl l.length xs) (.sl m.length ys) (.sl 0 []) false [] [] false [] [] 0 0] (resV (fisR l m)) := by
  have h1 := raw_fisher (tn := 0) (tc := []) (sm := false) (nm := []) (dm := []) (ss := false) (ns := []) (ds := []) (k := 0) (n := 0) h h2 hl hm
  have h3 := test_Statistic h1 (sz_fis (row_sz10 h) (row_sz10 h2) hl hm) deg_fis
  rw [statR_fis hl hm] at h3
  exact h3
theorem stu_known : stuR [((1 : Int) : Rat), ((2 : Int) : Rat), ((3 : Int) : Rat)] 0 = (((12 : Int) : Rat), [2], 0) := by decide +kernel
theorem law19_known : Go.Ev.Fn CX 27 [] (.bool true) := by
  have i1 := ref2_Int 1 (by omega)
  have i2 := ref2_Int 2 (by omega)
  have i3 := ref2_Int 3 (by omega)
  have i12 := ref2_Int 12 (by omega)
  have hr : RowC (rvsC [((1 : Int) : Rat), ((2 : Int) : Rat), ((3 : Int) : Rat)]) [((1 : Int) : Rat), ((2 : Int) : Rat), ((3 : Int) : Rat)] 2 := rvsC_row _ (by
    intro x hx
    simp only [List.mem_cons, List.not_mem_nil, or_false] at hx
    rcases hx with rfl | rfl | rfl <;> exact int_szR (by omega))
  have s1 := stat_T (M := 2) (sm := false) (nm := []) (dm := []) (mu := 0) hr (by omega) (by omega) ⟨_, _, _, rfl, okL_nil, okL_nil, by simp, by simp, rfl⟩ (by simp)
  rw [stu_known] at s1
  have n1 := law19_numbers [2] [2] (by simp) (by simp)
  rw [decide_eq_true rfl] at n1
  have e1 := ref2_Same (RatA_rv (int_szR (n := 12) (by omega))) (RatA_rv (int_szR (n := 12) (by omega))) (by omega) (by omega) (by omega)
  rw [decide_eq_true rfl] at e1
  clear hr
  refine Go.Ev.Fn.intro (fn := Tryz.f27) (body := (Tryz.f27).body.get!) (by kernel_rfl) (by kernel_rfl) (by kernel_rfl) (fun _ => rfl) (Nat.le_of_ble_eq_true (by kernel_rfl)) ?_; unfold Tryz.f27; simp only [Option.get!_some]
  repeat (first | (simp only [go_sem, Nat.reduceEqDiff, Nat.reduceAdd, Nat.reduceSub, Nat.reduceMul, Nat.reduceLeDiff, Nat.reduceLT, reduceIte, reduceCtorEq, Nat.succ_ne_zero, elemsC, Int.reduceToNat, Nat.reducePow]) | (simp (disch := (first | omega | (simp only [AL, List.length_map]; omega))) only [AR, AL, ifT, ifF, take_all, List.length_cons, List.length_nil, Int.reduceToNat, Int.reducePow, Nat.reducePow]) | (refine wk_intro (by kernel_rfl) ?_) | (refine vp_draw (id := 2) (l := [2, 18]) (by kernel_rfl) ?_) | (refine vf_of (by first | exact i1 | exact i2 | exact i3 | exact s1 | exact n1 | exact i12 | exact e1) ?_))
end Go.Proofs.YthbjgdmcnonofaaGreat

/- test.P of counts that are just what would be; vernierlaw19.TestEven, in the evaluator. -/
namespace Go.Proofs.YthbjgdmcnonofaaGreat
set_option linter.unusedSimpArgs false
set_option linter.unusedVariables false
set_option maxRecDepth 8000
open Go.Ev
theorem u_ints : Tryz.prog.underlying 43 = some (.slice 3) := by kernel_rfl
theorem shp_ints_all {n : Nat} : ∀ l : List (List SV), (∀ x ∈ l, ShpT Tryz.prog (n + 1) 3 x) → ∃ a : List Int, l.flatten = a.map (fun i => SV.int .i64 i) ∧ l.length = a.length ∧ ∀ i ∈ a, (Lit.int .i64 i).wf = true := by
  intro l
  induction l with
  | nil => intro _; exact ⟨[], rfl, rfl, fun i hi => by cases hi⟩
  | cons x l ih =>
    intro hx
    obtain ⟨a, h1, h2, h3⟩ := ih fun y hy => hx y (List.mem_cons_of_mem _ hy)
    obtain ⟨i, rfl, hw⟩ := shp_int (hx x List.mem_cons_self)
    refine ⟨i :: a, by rw [List.flatten_cons, h1]; rfl, by simp [h2], fun j hj => ?_⟩
    rcases List.mem_cons.1 hj with rfl | hj
    · exact hw
    · exact h3 j hj
theorem shp_ints {n : Nat} {ss : List SV} (h : ShpT Tryz.prog (n + 2) 43 ss) : ∃ a : List Int, ss = [intsV a] ∧ a.length ≤ maxLen ∧ ∀ i ∈ a, (Lit.int .i64 i).wf = true := by
  unfold ShpT at h
  rw [u_ints] at h
  obtain ⟨elems, rfl, hl, he⟩ := h
  obtain ⟨a, h1, h2, h3⟩ := shp_ints_all elems he
  exact ⟨a, by rw [h1, h2], h2 ▸ hl, h3⟩
/-- A number's last four bits. -/
def low4 (x : Int) : Nat := (BitVec.ofInt 64 x &&& BitVec.ofInt 64 15).toNat
theorem low4_le (x : Int) : low4 x ≤ 15 := by
  unfold low4
  rw [BitVec.toNat_and]
  exact Nat.and_le_right
theorem low4_and (x : Int) : bitsSV .and .i64 x 15 = some (.int .i64 (low4 x : Int)) := by
  have h := low4_le x
  show some (SV.int .i64 (IntKind.i64.wrap ((BitVec.ofInt 64 x &&& BitVec.ofInt 64 15).toNat : Int))) = _
  rw [show (BitVec.ofInt 64 x &&& BitVec.ofInt 64 15).toNat = low4 x from rfl, wI64 (by omega)]
/-- The weights, and the counts. -/
def wgtR (a : List Int) : List Rat := a.map fun x => ((1 + (low4 x : Int) : Int) : Rat)
def cntR (n : Int) (a : List Int) : List Rat := a.map fun x => ((n * (1 + (low4 x : Int)) : Int) : Rat)
theorem cntR_eq (n : Int) (a : List Int) : cntR n a = (wgtR a).map fun x => (n : Rat) * x := by
  unfold cntR wgtR
  rw [List.map_map]
  refine List.map_congr_left fun x _ => ?_
  rw [Rat.intCast_mul]; rfl
theorem wgt_pos (a : List Int) : ∀ x ∈ wgtR a, 0 < x := by
  intro x hx
  obtain ⟨y, -, rfl⟩ := List.mem_map.1 hx
  exact Rat.intCast_pos.2 (by omega)
theorem int_szR1 {n : Int} (h : 0 ≤ n ∧ n < 4294967296) : szR (n : Rat) 1 := by
  refine ⟨?_, ?_⟩
  · rw [Rat.num_intCast]; exact lim_len_one (by omega)
  · rw [Rat.den_intCast]; exact lim_len_one (by omega)
theorem wgt_sz (a : List Int) : ∀ x ∈ wgtR a, szR x 1 := by
  intro x hx
  obtain ⟨y, -, rfl⟩ := List.mem_map.1 hx
  have := low4_le y
  exact int_szR1 (by omega)
theorem cnt_bd {n c : Int} (h1 : 1 ≤ n) (h2 : n ≤ 50) (c1 : 0 ≤ c) (c2 : c ≤ 15) : 0 ≤ n * (1 + c) ∧ n * (1 + c) ≤ 800 := by
  refine ⟨Int.mul_nonneg (by omega) (by omega), ?_⟩
  have a := Int.mul_le_mul_of_nonneg_right h2 (show 0 ≤ 1 + c by omega)
  omega
theorem cnt_sz {n : Int} (h1 : 1 ≤ n) (h2 : n ≤ 50) (a : List Int) : ∀ x ∈ cntR n a, szR x 1 := by
  intro x hx
  obtain ⟨y, -, rfl⟩ := List.mem_map.1 hx
  have := low4_le y
  have := cnt_bd h1 h2 (c := (low4 y : Int)) (by omega) (by omega)
  exact int_szR1 (by omega)
theorem wgt_len (a : List Int) : (wgtR a).length = a.length := List.length_map _
theorem cnt_len (n : Int) (a : List Int) : (cntR n a).length = a.length := List.length_map _
theorem wgt_at (a : List Int) {i : Nat} (h : i < a.length) : (wgtR a).getD i 0 = ((1 + (low4 (a.getD i 0) : Int) : Int) : Rat) := by
  unfold wgtR
  rw [List.getD_eq_getElem?_getD, List.getD_eq_getElem?_getD, List.getElem?_map, List.getElem?_eq_getElem h]; rfl
theorem cnt_at (n : Int) (a : List Int) {i : Nat} (h : i < a.length) : (cntR n a).getD i 0 = ((n * (1 + (low4 (a.getD i 0) : Int)) : Int) : Rat) := by
  unfold cntR
  rw [List.getD_eq_getElem?_getD, List.getD_eq_getElem?_getD, List.getElem?_map, List.getElem?_eq_getElem h]; rfl
section
variable {kind k n : Int} {X Y tn : Nat} {xs ys tc : List SV} {sm ss : Bool} {nm dm ns ds : List Nat}
theorem raw_fit {l m : List Rat} (h : RowC xs l 1) (h2 : RowC ys m 1) (hl : l.length ≤ 12) (hm : m.length ≤ 12) :
    Go.Ev.Fn CX 65 [testV 6 (.sl l.length xs) (.sl m.length ys) (.sl tn tc) sm nm dm ss ns ds k n] (resV (fitR l m)) := by
  have s1 := test_fit h h2 hl hm
  generalize fitR l m = r at *
  clear h h2
  refine Go.Ev.Fn.intro (fn := Tryz.f65) (body := (Tryz.f65).body.get!) (by kernel_rfl) (by kernel_rfl) (by kernel_rfl) (fun _ => rfl) (Nat.le_of_ble_eq_true (by kernel_rfl)) ?_; unfold Tryz.f65; simp only [Option.get!_some]
  repeat (first | (simp only [go_sem, Nat.reduceEqDiff, Nat.reduceAdd, Nat.reduceSub, Nat.reduceMul, Nat.reduceLeDiff, Nat.reduceLT, reduceIte, reduceCtorEq, Nat.succ_ne_zero, elemsC, Int.reduceToNat, Nat.reducePow]) | (simp (disch := (first | omega | (simp only [AL, List.length_map]; omega))) only [AR, AL, ifT, ifF, take_all, List.length_cons, List.length_nil, Int.reduceToNat, Int.reducePow, Nat.reducePow]) | (refine wk_intro (by kernel_rfl) ?_) | (refine vf_of (by first | exact s1) ?_))
/-- A test of counts that has no statistic is told as likely as can be. -/
theorem test_P_fit {d p : Int} (h : Go.Ev.Fn CX 23 [testV 6 (.sl X xs) (.sl Y ys) (.sl tn tc) sm nm dm ss ns ds k n] (resV (0, [d], 0))) (h1 : 1 ≤ d) (h2 : d ≤ 256) (hp : 0 ≤ p) (hp2 : p ≤ 40) :
    Go.Ev.Fn CX 24 [testV 6 (.sl X xs) (.sl Y ys) (.sl tn tc) sm nm dm ss ns ds k n, .int .i64 p] (.tup [ballR 1 1, .int .i64 0]) := by
  have h' : Go.Ev.Fn CX 23 [testV 6 (.sl X xs) (.sl Y ys) (.sl tn tc) sm nm dm ss ns ds k n] (.tup [rv 0, .sl 1 [.int .i64 d], .int .i64 0]) := h
  have c := test_isChi 6
  rw [decide_eq_true (by omega)] at c
  have r2 := rat_Int 2 (by omega)
  have o := test_over (RatA_rv (szR_zero (L := 1) (by omega))) (RatA_rv (int_szR (n := 2) (by omega))) (by omega) (by omega) (by omega)
  rw [show (0 : Rat) / ((2 : Int) : Rat) = 0 by decide +kernel] at o
  have q := incg_Q0 (p := p) h1 h2
  clear h
  refine Go.Ev.Fn.intro (fn := Tryz.f24) (body := (Tryz.f24).body.get!) (by kernel_rfl) (by kernel_rfl) (by kernel_rfl) (fun _ => rfl) (Nat.le_of_ble_eq_true (by kernel_rfl)) ?_; unfold Tryz.f24; simp only [Option.get!_some]
  repeat (first | (simp only [go_sem, Nat.reduceEqDiff, Nat.reduceAdd, Nat.reduceSub, Nat.reduceMul, Nat.reduceLeDiff, Nat.reduceLT, reduceIte, reduceCtorEq, Nat.succ_ne_zero, elemsC, Int.reduceToNat, Nat.reducePow]) | (simp (disch := (first | omega | (simp only [AL, List.length_map]; omega))) only [AR, AL, ifT, ifF, take_all, List.length_cons, List.length_nil, Int.reduceToNat, Int.reducePow, Nat.reducePow]) | (refine wk_intro (by kernel_rfl) ?_) | (refine vp_draw (id := 9) (l := []) (by kernel_rfl) ?_) | (refine vp_draw (id := 11) (l := []) (by kernel_rfl) ?_) | (refine vp_draw (id := 14) (l := []) (by kernel_rfl) ?_) | (refine vf_of (by first | exact h' | exact c | exact r2 | exact o | exact q) ?_))
end
section
variable {n k : Int} {a : List Int}
set_option maxHeartbeats 1000000 in
theorem even_main (h1 : 1 ≤ n) (h2 : n ≤ 50) (k1 : 0 ≤ k) (k2 : k ≤ 40) (l1 : 2 ≤ a.length) (l2 : a.length ≤ 8) :
    Go.Ev.Fn CX 6 [.int .i64 n, .int .i64 k, .sl a.length (a.map fun i => SV.int .i64 i)] (.bool true) := by
  have hat := fun {i : Nat} (h : i < a.length) => ints_at a h
  have hln : (a.map fun i => SV.int .i64 i).length = a.length := List.length_map _
  have hfe := fit_even (m := wgtR a) (n := (n : Rat)) (Rat.intCast_pos.2 (by omega)) (wgt_pos a) (by rw [wgt_len]; omega)
  rw [← cntR_eq, wgt_len] at hfe
  have raw := raw_fit (tn := 0) (tc := []) (sm := false) (nm := []) (dm := []) (ss := false) (ns := []) (ds := []) (k := 0) (n := 0) (rvsC_row (cntR n a) (cnt_sz h1 h2 a)) (rvsC_row (wgtR a) (wgt_sz a)) (by rw [cnt_len]; omega) (by rw [wgt_len]; omega)
  rw [hfe, cnt_len, wgt_len] at raw
  have st := test_Statistic raw (szR_zero (by omega)) (by simp)
  have hst : statR 6 ((0 : Rat), [(a.length : Int) - 1], (0 : Int)) = (0, [(a.length : Int) - 1], 0) := by
    unfold statR
    rw [if_neg (by simp), if_neg (by simp; omega), if_neg (fun h => absurd (show (128 : Rat) < 0 from h.2) (by decide +kernel))]
  rw [hst] at st
  have tp := test_P_fit st (by omega) (by omega) k1 k2
  have s1 : Go.Ev.Fn CX 23 [testV 6 (.sl a.length (rvsC (cntR n a))) (.sl a.length (rvsC (wgtR a))) (.sl 0 []) false [] [] false [] [] 0 0] (.tup [rv 0, .sl 1 [.int .i64 ((a.length : Int) - 1)], .int .i64 0]) := st
  have zz := ref2_Zero (RatA_rv (szR_zero (L := 1) (by omega))) (by omega) (by omega)
  rw [decide_eq_true rfl] at zz
  have nn := law19_numbers [(a.length : Int) - 1] [(a.length : Int) - 1] (by simp) (by simp)
  rw [decide_eq_true rfl] at nn
  have nn' : Go.Ev.Fn CX 26 [.sl 1 [.int .i64 ((a.length : Int) - 1)], .sl 1 [.int .i64 ((a.length : Int) - 1)]] (.bool true) := nn
  have o1 := ref2_Int 1 (by omega)
  have hh := ref4_Has (a := 1) (b := 1) (q := ((1 : Int) : Rat)) (L := 2) (int_szR (n := 1) (by omega)) (int_szR (n := 1) (by omega)) (RatA_rv (int_szR (n := 1) (by omega))) (by omega) (by omega) (by omega) (by decide +kernel) (by decide +kernel)
  have hw := fun {i : Nat} (h : i < a.length) => wgt_at a h
  have hc := fun {i : Nat} (h : i < a.length) => cnt_at n a h
  have lw := wgt_len a
  have lc := cnt_len n a
  have t1 : (rvsC (cntR n a)).take (a.length * 3) = rvsC (cntR n a) := List.take_of_length_le (by rw [rvsC_len, lc]; omega)
  have t2 : (rvsC (wgtR a)).take (a.length * 3) = rvsC (wgtR a) := List.take_of_length_le (by rw [rvsC_len, lw]; omega)
  rw [show ((a.length : Int) - 1) = ((a.length - 1 : Nat) : Int) by omega] at s1 nn'
  clear hfe raw st hst nn
  generalize wgtR a = z2 at *
  generalize cntR n a = z1 at *
  generalize hcs : (a.map fun i => SV.int .i64 i) = cs at *
  refine Go.Ev.Fn.intro (fn := Tryz.f6) (body := (Tryz.f6).body.get!) (by kernel_rfl) (by kernel_rfl) (by kernel_rfl) (fun _ => rfl) (Nat.le_of_ble_eq_true (by kernel_rfl)) ?_; unfold Tryz.f6; simp only [Option.get!_some]
  repeat (first | (simp only [go_sem, Nat.reduceEqDiff, Nat.reduceAdd, Nat.reduceSub, Nat.reduceMul, Nat.reduceLeDiff, Nat.reduceLT, reduceIte, reduceCtorEq, Nat.succ_ne_zero, elemsC, Int.reduceToNat, Nat.reducePow]) | (simp (disch := (first | omega | (simp only [AL, List.length_map]; omega))) only [AR, AL, ifT, ifF, take_all, List.length_cons, List.length_nil, Int.reduceToNat, Int.reducePow, Nat.reducePow]) | (refine wk_intro (by kernel_rfl) ?_) | (refine vp_draw (id := 12) (l := [13, 95]) (by kernel_rfl) ?_))
  refine vp_loop_inv (fun s => s.tmp 0 = .sv (.int .i64 n) ∧ s.tmp 1 = .sv (.int .i64 k) ∧ s.tmp 2 = .sv (.sl a.length cs) ∧ s.tmp 95 = .undef ∧
      ∃ i : Nat, s.tmp 9 = .sv (.int .i64 (i : Int)) ∧ i ≤ a.length ∧ ((i = 0 ∧ s.tmp 7 = .nil ∧ s.tmp 8 = .nil ∧ s.gen 59 = 0 ∧ s.gen 64 = 0) ∨
        (0 < i ∧ s.tmp 7 = .ref 59 0 3 0 i ∧ s.obj 59 0 = some (rvsC (z1.take i)) ∧ s.tmp 8 = .ref 64 0 3 0 i ∧ s.obj 64 0 = some (rvsC (z2.take i)))))
    (fun s => match s.tmp 9 with | .sv (.int _ i) => a.length - i.toNat | _ => 0) ⟨rfl, rfl, rfl, rfl, 0, rfl, by omega, .inl ⟨rfl, rfl, rfl, rfl, rfl⟩⟩ ?_
  rintro s ⟨i0, i1, i2, i95, i, i9, hi, hcase⟩
  by_cases hend : i = a.length
  · subst hend
    obtain ⟨_, i7, oA, i8, oB⟩ := hcase.resolve_left (fun h => by omega)
    rw [List.take_of_length_le (by omega)] at oA oB
    clear hat hw hc
    repeat (first | (simp only [go_sem, Nat.reduceEqDiff, Nat.reduceAdd, Nat.reduceSub, Nat.reduceMul, Nat.reduceLeDiff, Nat.reduceLT, reduceIte, reduceCtorEq, Nat.succ_ne_zero, elemsC, Int.reduceToNat, Nat.reducePow, i0, i1, i2, i95, i9, i7, oA, i8, oB, t1, t2, List.drop_zero, N0]) | (simp (disch := (first | omega | (simp only [AL, List.length_map]; omega))) only [AR, AL, ifT, ifF, take_all, List.length_cons, List.length_nil, Int.reduceToNat, Int.reducePow, Nat.reducePow, i0, i1, i2, i95, i9, i7, oA, i8, oB, t1, t2, List.drop_zero, N0]) | (refine wk_intro (by kernel_rfl) ?_) | (refine vp_draw (id := 12) (l := [13, 95]) (by kernel_rfl) ?_) | (refine vf_of (by first | exact s1 | exact tp | exact zz | exact nn' | exact o1 | exact hh | exact law19_known) ?_))
  · have g := hat (i := i) (by omega)
    have gw := hw (i := i) (by omega)
    have gc := hc (i := i) (by omega)
    have la := low4_and (a.getD i 0)
    have lb := low4_le (a.getD i 0)
    have hsn1 := rvs_snoc (l := z1) (i := i) (by omega)
    have hsn2 := rvs_snoc (l := z2) (i := i) (by omega)
    have hrl1 := rvsC_len (z1.take i)
    have hrl2 := rvsC_len (z2.take i)
    rw [List.length_take, lc, Nat.min_eq_left (by omega)] at hrl1
    rw [List.length_take, lw, Nat.min_eq_left (by omega)] at hrl2
    rw [gc] at hsn1
    rw [gw] at hsn2
    generalize a.getD i 0 = x at *
    obtain ⟨c, hcc⟩ : ∃ c : Int, c = (low4 x : Int) := ⟨_, rfl⟩
    rw [← hcc] at hsn1 hsn2 la
    have bd := cnt_bd h1 h2 (c := c) (by omega) (by omega)
    have q1 := ref2_Int (n * (1 + c)) (by omega)
    have q2 := ref2_Int (1 + c) (by omega)
    clear hat hw hc gw gc s1 tp zz nn' o1 hh t1 t2
    rcases hcase with ⟨h00, i7, i8, g7, g8⟩ | ⟨h00, i7, oA, i8, oB⟩
    · subst h00
      rw [List.take_zero, rvsC_nil, List.nil_append] at hsn1 hsn2
      rw [List.drop_zero] at g
      repeat (first | (simp only [go_sem, Nat.reduceEqDiff, Nat.reduceAdd, Nat.reduceSub, Nat.reduceMul, Nat.reduceLeDiff, Nat.reduceLT, reduceIte, reduceCtorEq, Nat.succ_ne_zero, elemsC, Int.reduceToNat, Nat.reducePow, i0, i1, i2, i95, i9, i7, i8, g7, g8, g, la, N0]) | (simp (disch := (first | omega | (simp only [AL, List.length_map]; omega))) only [AR, AL, ifT, ifF, take_all, List.length_cons, List.length_nil, Int.reduceToNat, Int.reducePow, Nat.reducePow, i0, i1, i2, i95, i9, i7, i8, g7, g8, g, la, N0]) | (refine wk_intro (by kernel_rfl) ?_) | (refine vp_draw (id := 12) (l := [13, 95]) (by kernel_rfl) ?_) | (refine vf_of (by first | exact q1 | exact q2) ?_))
      exact ⟨⟨1, rfl, by omega, .inr ⟨by omega, rfl, by first | (rw [← hsn1]; rfl) | rw [← hsn1], rfl, by first | (rw [← hsn2]; rfl) | rw [← hsn2]⟩⟩, by omega⟩
    · unfold rvC at hsn1 hsn2
      repeat (first | (simp only [go_sem, Nat.reduceEqDiff, Nat.reduceAdd, Nat.reduceSub, Nat.reduceMul, Nat.reduceLeDiff, Nat.reduceLT, reduceIte, reduceCtorEq, Nat.succ_ne_zero, elemsC, Int.reduceToNat, Nat.reducePow, i0, i1, i2, i95, i9, i7, oA, i8, oB, g, la, hln, N0, hsn1, hsn2, hrl1, hrl2]) | (simp (disch := (first | omega | (simp only [AL, List.length_map]; omega))) only [AR, AL, ifT, ifF, take_all, List.length_cons, List.length_nil, Int.reduceToNat, Int.reducePow, Nat.reducePow, i0, i1, i2, i95, i9, i7, oA, i8, oB, g, la, hln, N0, hsn1, hsn2, hrl1, hrl2]) | (refine wk_intro (by kernel_rfl) ?_) | (refine vp_draw (id := 12) (l := [13, 95]) (by kernel_rfl) ?_) | (refine vf_of (by first | exact q1 | exact q2) ?_))
      exact ⟨⟨i + 1, rfl, by omega, .inr ⟨by omega, rfl, by first | (rw [← hsn1]; rfl) | rw [← hsn1], rfl, by first | (rw [← hsn2]; rfl) | rw [← hsn2]⟩⟩, by omega⟩
theorem even_out {m : Nat} {cs : List SV} (hm : m ≤ 9223372036854775807) (hw : -9223372036854775808 ≤ n ∧ n < 9223372036854775808) (hk : -9223372036854775808 ≤ k ∧ k < 9223372036854775808) (h : n < 1 ∨ 50 < n ∨ k < 0 ∨ 40 < k ∨ m < 2 ∨ 8 < m) :
    Go.Ev.Fn CX 6 [.int .i64 n, .int .i64 k, .sl m cs] (.bool true) := by
  by_cases c1 : n < 1
  · refine Go.Ev.Fn.intro (fn := Tryz.f6) (body := (Tryz.f6).body.get!) (by kernel_rfl) (by kernel_rfl) (by kernel_rfl) (fun _ => rfl) (Nat.le_of_ble_eq_true (by kernel_rfl)) ?_; unfold Tryz.f6; simp only [Option.get!_some]
    repeat (first | (simp only [go_sem, Nat.reduceEqDiff, Nat.reduceAdd, Nat.reduceSub, Nat.reduceMul, Nat.reduceLeDiff, Nat.reduceLT, reduceIte, reduceCtorEq, Nat.succ_ne_zero, elemsC, Int.reduceToNat, Nat.reducePow]) | (simp (disch := (first | omega | (simp only [AL, List.length_map]; omega))) only [AR, AL, ifT, ifF, take_all, List.length_cons, List.length_nil, Int.reduceToNat, Int.reducePow, Nat.reducePow]) | (refine wk_intro (by kernel_rfl) ?_) | (refine vp_draw (id := 12) (l := [13, 95]) (by kernel_rfl) ?_))
  by_cases c2 : 50 < n
  · refine Go.Ev.Fn.intro (fn := Tryz.f6) (body := (Tryz.f6).body.get!) (by kernel_rfl) (by kernel_rfl) (by kernel_rfl) (fun _ => rfl) (Nat.le_of_ble_eq_true (by kernel_rfl)) ?_; unfold Tryz.f6; simp only [Option.get!_some]
    repeat (first | (simp only [go_sem, Nat.reduceEqDiff, Nat.reduceAdd, Nat.reduceSub, Nat.reduceMul, Nat.reduceLeDiff, Nat.reduceLT, reduceIte, reduceCtorEq, Nat.succ_ne_zero, elemsC, Int.reduceToNat, Nat.reducePow]) | (simp (disch := (first | omega | (simp only [AL, List.length_map]; omega))) only [AR, AL, ifT, ifF, take_all, List.length_cons, List.length_nil, Int.reduceToNat, Int.reducePow, Nat.reducePow]) | (refine wk_intro (by kernel_rfl) ?_) | (refine vp_draw (id := 12) (l := [13, 95]) (by kernel_rfl) ?_))
  by_cases c3 : k < 0
  · refine Go.Ev.Fn.intro (fn := Tryz.f6) (body := (Tryz.f6).body.get!) (by kernel_rfl) (by kernel_rfl) (by kernel_rfl) (fun _ => rfl) (Nat.le_of_ble_eq_true (by kernel_rfl)) ?_; unfold Tryz.f6; simp only [Option.get!_some]
    repeat (first | (simp only [go_sem, Nat.reduceEqDiff, Nat.reduceAdd, Nat.reduceSub, Nat.reduceMul, Nat.reduceLeDiff, Nat.reduceLT, reduceIte, reduceCtorEq, Nat.succ_ne_zero, elemsC, Int.reduceToNat, Nat.reducePow]) | (simp (disch := (first | omega | (simp only [AL, List.length_map]; omega))) only [AR, AL, ifT, ifF, take_all, List.length_cons, List.length_nil, Int.reduceToNat, Int.reducePow, Nat.reducePow]) | (refine wk_intro (by kernel_rfl) ?_) | (refine vp_draw (id := 12) (l := [13, 95]) (by kernel_rfl) ?_))
  by_cases c4 : 40 < k
  · refine Go.Ev.Fn.intro (fn := Tryz.f6) (body := (Tryz.f6).body.get!) (by kernel_rfl) (by kernel_rfl) (by kernel_rfl) (fun _ => rfl) (Nat.le_of_ble_eq_true (by kernel_rfl)) ?_; unfold Tryz.f6; simp only [Option.get!_some]
    repeat (first | (simp only [go_sem, Nat.reduceEqDiff, Nat.reduceAdd, Nat.reduceSub, Nat.reduceMul, Nat.reduceLeDiff, Nat.reduceLT, reduceIte, reduceCtorEq, Nat.succ_ne_zero, elemsC, Int.reduceToNat, Nat.reducePow]) | (simp (disch := (first | omega | (simp only [AL, List.length_map]; omega))) only [AR, AL, ifT, ifF, take_all, List.length_cons, List.length_nil, Int.reduceToNat, Int.reducePow, Nat.reducePow]) | (refine wk_intro (by kernel_rfl) ?_) | (refine vp_draw (id := 12) (l := [13, 95]) (by kernel_rfl) ?_))
  by_cases c5 : m < 2
  · refine Go.Ev.Fn.intro (fn := Tryz.f6) (body := (Tryz.f6).body.get!) (by kernel_rfl) (by kernel_rfl) (by kernel_rfl) (fun _ => rfl) (Nat.le_of_ble_eq_true (by kernel_rfl)) ?_; unfold Tryz.f6; simp only [Option.get!_some]
    repeat (first | (simp only [go_sem, Nat.reduceEqDiff, Nat.reduceAdd, Nat.reduceSub, Nat.reduceMul, Nat.reduceLeDiff, Nat.reduceLT, reduceIte, reduceCtorEq, Nat.succ_ne_zero, elemsC, Int.reduceToNat, Nat.reducePow]) | (simp (disch := (first | omega | (simp only [AL, List.length_map]; omega))) only [AR, AL, ifT, ifF, take_all, List.length_cons, List.length_nil, Int.reduceToNat, Int.reducePow, Nat.reducePow]) | (refine wk_intro (by kernel_rfl) ?_) | (refine vp_draw (id := 12) (l := [13, 95]) (by kernel_rfl) ?_))
  · refine Go.Ev.Fn.intro (fn := Tryz.f6) (body := (Tryz.f6).body.get!) (by kernel_rfl) (by kernel_rfl) (by kernel_rfl) (fun _ => rfl) (Nat.le_of_ble_eq_true (by kernel_rfl)) ?_; unfold Tryz.f6; simp only [Option.get!_some]
    repeat (first | (simp only [go_sem, Nat.reduceEqDiff, Nat.reduceAdd, Nat.reduceSub, Nat.reduceMul, Nat.reduceLeDiff, Nat.reduceLT, reduceIte, reduceCtorEq, Nat.succ_ne_zero, elemsC, Int.reduceToNat, Nat.reducePow]) | (simp (disch := (first | omega | (simp only [AL, List.length_map]; omega))) only [AR, AL, ifT, ifF, take_all, List.length_cons, List.length_nil, Int.reduceToNat, Int.reducePow, Nat.reducePow]) | (refine wk_intro (by kernel_rfl) ?_) | (refine vp_draw (id := 12) (l := [13, 95]) (by kernel_rfl) ?_))
end
theorem wf_int64e {n : Int} (h : (Lit.int .i64 n).wf = true) : -9223372036854775808 ≤ n ∧ n < 9223372036854775808 := by
  have h' : decide (IntKind.i64.min ≤ n ∧ n ≤ IntKind.i64.max) = true := by simpa [Lit.wf] using h
  have := of_decide_eq_true h'
  simp only [show IntKind.i64.min = -9223372036854775808 from rfl, show IntKind.i64.max = 9223372036854775807 from rfl] at this
  omega
theorem even_law (n : Int) (w0 : (Lit.int .i64 n).wf = true) (k : Int) (w1 : (Lit.int .i64 k).wf = true) (s2 : SV) (sh2 : ShpT Tryz.prog 7 43 [s2]) :
    Go.Ev.Fn CX 6 [.int .i64 n, .int .i64 k, s2] (.bool true) := by
  obtain ⟨a, h, hl, -⟩ := shp_ints (n := 5) sh2
  obtain rfl : s2 = intsV a := by simpa using h
  by_cases c : 1 ≤ n ∧ n ≤ 50 ∧ 0 ≤ k ∧ k ≤ 40 ∧ 2 ≤ a.length ∧ a.length ≤ 8
  · exact even_main c.1 c.2.1 c.2.2.1 c.2.2.2.1 c.2.2.2.2.1 c.2.2.2.2.2
  · exact even_out (Nat.le_trans hl (by decide)) (wf_int64e w0) (wf_int64e w1) (by omega)
end Go.Proofs.YthbjgdmcnonofaaGreat
