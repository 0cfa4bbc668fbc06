/- Part 9 of the proof: the evaluator, contracts of functions and their plain laws (joined by program). No condition. -/
import Derived.Test.YtecjelnpmcnbaaaGreatPart8
set_option linter.unusedVariables false
set_option linter.unusedSimpArgs false
set_option maxRecDepth 100000
namespace Go.Proofs.YtecjelnpmcnbaaaGreat
open Go.Ev
theorem slices_Equal (a b : List Nat) (ha : a.length ≤ 274877906944) (hb : b.length ≤ 274877906944) : Go.Ev.Fn CX 232 [natV a, natV b] (.bool (decide (a = b))) := by
  refine Go.Ev.Fn.intro (fn := Tryz.f232) (body := (Tryz.f232).body.get!) (by kernel_rfl) (by kernel_rfl) (by kernel_rfl) (fun _ => rfl) (Nat.le_of_ble_eq_true (by kernel_rfl)) ?_; unfold Tryz.f232; simp only [Option.get!_some]
  by_cases hl : a.length = b.length
  · repeat (first | (simp only [go_sem]) | (simp (disch := (first | omega | (simp only [AL, List.length_map]; omega))) only [AR, AL, ifT, ifF, take_all, List.length_cons, List.length_nil, Int.reduceToNat, Int.reducePow, Nat.reducePow]) | (refine wk_intro (by kernel_rfl) ?_) | (refine vp_draw (id := 6) (l := []) (by kernel_rfl) ?_))
    refine vp_loop_inv (fun s => s.tmp 0 = .sv (natV a) ∧ s.tmp 1 = .sv (natV b) ∧ s.tmp 12 = .sv (.int .i64 (a.length : Int)) ∧ ∃ i : Nat, s.tmp 13 = .sv (.int .i64 i) ∧ i ≤ a.length ∧ a.take i = b.take i) (fun s => match s.tmp 13 with | .sv (.int _ i) => a.length - i.toNat | _ => 0) ⟨rfl, rfl, rfl, 0, rfl, by omega, rfl⟩ ?_
    rintro s ⟨i0, i1, i12, i, i13, hi, ht⟩
    by_cases hend : i = a.length
    · subst hend
      rw [List.take_length, hl, List.take_length] at ht
      rw [decide_eq_true ht]
      repeat (first | (simp only [go_sem, i0, i1, i12, i13]) | (simp (disch := (first | omega | (simp only [AL, List.length_map]; omega))) only [AR, AL, ifT, ifF, take_all, List.length_cons, List.length_nil, Int.reduceToNat, Int.reducePow, Nat.reducePow, i0, i1, i12, i13]) | (refine wk_intro (by kernel_rfl) ?_) | (refine vp_draw (id := 6) (l := []) (by kernel_rfl) ?_))
    · have e : ∀ c : List Nat, i < c.length → c.take (i + 1) = c.take i ++ [c.getD i 0] := by
        intro c hc
        rw [List.take_add_one, List.getD_eq_getElem?_getD, List.getElem?_eq_getElem hc]
        rfl
      by_cases hx : a.getD i 0 = b.getD i 0
      · repeat (first | (simp only [go_sem, i0, i1, i12, i13]) | (simp (disch := (first | omega | (simp only [AL, List.length_map]; omega))) only [AR, AL, ifT, ifF, take_all, List.length_cons, List.length_nil, Int.reduceToNat, Int.reducePow, Nat.reducePow, i0, i1, i12, i13]) | (refine wk_intro (by kernel_rfl) ?_) | (refine vp_draw (id := 6) (l := []) (by kernel_rfl) ?_))
        exact ⟨⟨i + 1, rfl, by omega, by rw [e a (by omega), e b (by omega), ht, hx]⟩, by omega⟩
      · rw [decide_eq_false (fun h => hx (by rw [h]))]
        repeat (first | (simp only [go_sem, i0, i1, i12, i13]) | (simp (disch := (first | omega | (simp only [AL, List.length_map]; omega))) only [AR, AL, ifT, ifF, take_all, List.length_cons, List.length_nil, Int.reduceToNat, Int.reducePow, Nat.reducePow, i0, i1, i12, i13]) | (refine wk_intro (by kernel_rfl) ?_) | (refine vp_draw (id := 6) (l := []) (by kernel_rfl) ?_))
  · rw [decide_eq_false (fun h => hl (by rw [h]))]
    repeat (first | (simp only [go_sem]) | (simp (disch := (first | omega | (simp only [AL, List.length_map]; omega))) only [AR, AL, ifT, ifF, take_all, List.length_cons, List.length_nil, Int.reduceToNat, Int.reducePow, Nat.reducePow]) | (refine wk_intro (by kernel_rfl) ?_) | (refine vp_draw (id := 6) (l := []) (by kernel_rfl) ?_))
theorem rat_Same {v w : SV} {q r : Rat} {L M : Nat} (hv : RatA v q L) (hw : RatA w r M) (hL : 1 ≤ L) (hM : 1 ≤ M) (h : L + M ≤ 8388608) : Go.Ev.Fn CX 201 [v, w] (.bool (decide (q = r))) := by
  have hnv := rat_Norm hv (by omega)
  have hnw := rat_Norm hw (by omega)
  obtain ⟨z1, z2⟩ := szR_of hv hL
  obtain ⟨y1, y2⟩ := szR_of hw hM
  have l1 := slices_Equal (lim q.num.natAbs) (lim r.num.natAbs) (by omega) (by omega)
  have l2 := slices_Equal (lim q.den) (lim r.den) (by omega) (by omega)
  have hbb := beq_bool (decide (q.num < 0)) (decide (r.num < 0))
  obtain ⟨s, n, d, rfl, -⟩ := hv
  obtain ⟨s', n', d', rfl, -⟩ := hw
  refine Go.Ev.Fn.intro (fn := Tryz.f201) (body := (Tryz.f201).body.get!) (by kernel_rfl) (by kernel_rfl) (by kernel_rfl) (fun _ => rfl) (Nat.le_of_ble_eq_true (by kernel_rfl)) ?_; unfold Tryz.f201; simp only [Option.get!_some]
  repeat (first | (simp only [go_sem, hbb]) | (simp (disch := (first | omega | (simp only [AL, List.length_map]; omega))) only [AR, AL, ifT, ifF, take_all, List.length_cons, List.length_nil, Int.reduceToNat, Int.reducePow, Nat.reducePow, hbb]) | (refine wk_intro (by kernel_rfl) ?_) | (refine vp_draw (id := 1) (l := []) (by kernel_rfl) ?_) | (refine vf_of (by first | exact hnv | exact hnw) ?_))
  by_cases h1 : decide (q.num < 0) = decide (r.num < 0)
  · rw [decide_eq_true h1]
    by_cases h2 : lim q.num.natAbs = lim r.num.natAbs
    · rw [decide_eq_true h2] at l1
      repeat (first | (simp only [go_sem]) | (simp (disch := (first | omega | (simp only [AL, List.length_map]; omega))) only [AR, AL, ifT, ifF, take_all, List.length_cons, List.length_nil, Int.reduceToNat, Int.reducePow, Nat.reducePow]) | (refine wk_intro (by kernel_rfl) ?_) | (refine vp_draw (id := 1) (l := []) (by kernel_rfl) ?_))
      have e : decide (lim q.den = lim r.den) = decide (q = r) := by
        by_cases h3 : lim q.den = lim r.den
        · rw [decide_eq_true h3, decide_eq_true (rv_eq h1 h2 h3)]
        · rw [decide_eq_false h3, decide_eq_false (fun e => h3 (by rw [e]))]
      rw [e] at l2
      repeat (first | (simp only [go_sem]) | (simp (disch := (first | omega | (simp only [AL, List.length_map]; omega))) only [AR, AL, ifT, ifF, take_all, List.length_cons, List.length_nil, Int.reduceToNat, Int.reducePow, Nat.reducePow]) | (refine wk_intro (by kernel_rfl) ?_) | (refine vp_draw (id := 1) (l := []) (by kernel_rfl) ?_) | (refine vf_of (by first | exact l1 | exact l2) ?_))
    · rw [decide_eq_false h2] at l1
      have hne : q ≠ r := fun e => h2 (by rw [e])
      rw [decide_eq_false hne]
      repeat (first | (simp only [go_sem]) | (simp (disch := (first | omega | (simp only [AL, List.length_map]; omega))) only [AR, AL, ifT, ifF, take_all, List.length_cons, List.length_nil, Int.reduceToNat, Int.reducePow, Nat.reducePow]) | (refine wk_intro (by kernel_rfl) ?_) | (refine vp_draw (id := 1) (l := []) (by kernel_rfl) ?_) | (refine vf_of (by first | exact l1) ?_))
  · have hne : q ≠ r := fun e => h1 (by rw [e])
    rw [decide_eq_false h1, decide_eq_false hne]
    repeat (first | (simp only [go_sem]) | (simp (disch := (first | omega | (simp only [AL, List.length_map]; omega))) only [AR, AL, ifT, ifF, take_all, List.length_cons, List.length_nil, Int.reduceToNat, Int.reducePow, Nat.reducePow]) | (refine wk_intro (by kernel_rfl) ?_) | (refine vp_draw (id := 1) (l := []) (by kernel_rfl) ?_))
theorem neg_num {x : Rat} : decide (x.num < 0) = decide (x < 0) := by
  have h := Rat.num_nonneg (q := x)
  refine decide_eq_decide.2 ⟨fun g => ?_, fun g => ?_⟩
  · have : ¬ 0 ≤ x := fun k => absurd (h.2 k) (by omega)
    grind
  · rcases Int.lt_or_le x.num 0 with k | k
    · exact k
    · exact absurd (h.1 k) (by grind)
section
variable {v : SV} {x : Rat} {A B p L : Nat}
theorem erv {x : Rat} (h : decide (x.num < 0) = false) : rv x = ratV false (lim x.num.natAbs) (lim x.den) := by show ratV (decide (x.num < 0)) _ _ = _; rw [h]
theorem incb_I_ends {a b : Int} {pI : Int} (hv : RatA v x L) (hL1 : 1 ≤ L) (hL : L ≤ 3) (ha : 1 ≤ a ∧ a ≤ 256) (hb : 1 ≤ b ∧ b ≤ 256) (h : x = 0 ∨ x = 1) : Go.Ev.Fn CX 156 [.int .i64 a, .int .i64 b, v, .int .i64 pI] (.tup [ballR x x, .bool true]) := by
  have n1 := rat_Norm hv (by omega)
  have zx := szR_of hv hL1
  have i1 := rat_Int 1 (by omega)
  have o := ball_Of (RatA_rv zx) (by omega)
  have c1 := rat_Cmp (RatA_rv zx) (RatA_rv (int_szR (n := 1) (by omega))) hL1 (by omega) (by omega)
  have zr := rat_Zero (RatA_rv zx) hL1 (by omega)
  have sm := rat_Same (RatA_rv zx) (RatA_rv (int_szR (n := 1) (by omega))) hL1 (by omega) (by omega)
  rw [show ((1 : Int) : Rat) = 1 from rfl] at i1 c1 sm
  have e1 : decide (cmpR x 1 > 0) = false := by rw [cmpR_gt]; exact decide_eq_false (by rcases h with rfl | rfl <;> decide +kernel)
  have en : decide (x.num < 0) = false := by rw [neg_num]; exact decide_eq_false (by rcases h with rfl | rfl <;> decide +kernel)
  rw [erv en] at n1 c1 zr sm o
  obtain ⟨s, n, d, rfl, -⟩ := hv
  generalize cmpR x 1 = z at *
  by_cases hx : x = 0
  · rw [decide_eq_true hx] at zr
    clear hx h
    refine Go.Ev.Fn.intro (fn := Tryz.f156) (body := (Tryz.f156).body.get!) (by kernel_rfl) (by kernel_rfl) (by kernel_rfl) (fun _ => rfl) (Nat.le_of_ble_eq_true (by kernel_rfl)) ?_; unfold Tryz.f156; simp only [Option.get!_some]
    repeat (first | (simp only [go_sem, en, e1]) | (simp (disch := (first | omega | (simp only [AL, List.length_map]; omega))) only [AR, AL, ifT, ifF, take_all, List.length_cons, List.length_nil, Int.reduceToNat, Int.reducePow, Nat.reducePow, en, e1]) | (refine wk_intro (by kernel_rfl) ?_) | (refine vp_draw (id := 9) (l := []) (by kernel_rfl) ?_) | (refine vp_draw (id := 11) (l := []) (by kernel_rfl) ?_) | (refine vf_of (by first | exact n1 | exact i1 | exact c1 | exact zr | exact o) ?_))
    show _ = SV.agg [.bool (decide (x.num < 0)), natV (lim x.num.natAbs), natV (lim x.den), .bool (decide (x.num < 0)), natV (lim x.num.natAbs), natV (lim x.den)]
    rw [en]
  · rw [decide_eq_false hx] at zr
    rw [decide_eq_true (h.resolve_left hx)] at sm
    clear hx h
    refine Go.Ev.Fn.intro (fn := Tryz.f156) (body := (Tryz.f156).body.get!) (by kernel_rfl) (by kernel_rfl) (by kernel_rfl) (fun _ => rfl) (Nat.le_of_ble_eq_true (by kernel_rfl)) ?_; unfold Tryz.f156; simp only [Option.get!_some]
    repeat (first | (simp only [go_sem, en, e1]) | (simp (disch := (first | omega | (simp only [AL, List.length_map]; omega))) only [AR, AL, ifT, ifF, take_all, List.length_cons, List.length_nil, Int.reduceToNat, Int.reducePow, Nat.reducePow, en, e1]) | (refine wk_intro (by kernel_rfl) ?_) | (refine vp_draw (id := 9) (l := []) (by kernel_rfl) ?_) | (refine vp_draw (id := 11) (l := []) (by kernel_rfl) ?_) | (refine vf_of (by first | exact n1 | exact i1 | exact c1 | exact zr | exact sm | exact o) ?_))
    show _ = SV.agg [.bool (decide (x.num < 0)), natV (lim x.num.natAbs), natV (lim x.den), .bool (decide (x.num < 0)), natV (lim x.num.natAbs), natV (lim x.den)]
    rw [en]
end
end Go.Proofs.YtecjelnpmcnbaaaGreat
namespace Go.Proofs.YtecjelnpmcnbaaaGreat
open Go.Ev
section
variable {v : SV} {x : Rat} {a b p L : Nat}
abbrev toldLo (A p : Nat) : Rat := mkRat ((A / 2 ^ (p + 300 - (p + 2)) : Nat) : Int) (2 ^ (p + 2))
abbrev toldHi (B p : Nat) : Rat := mkRat ((B / 2 ^ (p + 300 - (p + 2)) + 1 : Nat) : Int) (2 ^ (p + 2))
theorem told_sz {A B : Nat} (hp : p ≤ 200) (hA : (lim A).length ≤ 100) (hB : (lim B).length ≤ 100) : szR (toldLo A p) 101 ∧ szR (toldHi B p) 101 := by
  have l3 := lim_len_mono (Nat.div_le_self A (2 ^ (p + 300 - (p + 2))))
  have l4 := lim_len_mono (Nat.div_le_self B (2 ^ (p + 300 - (p + 2))))
  have l1 := lim_len1
  have l5 := lim_len_add (a := B / 2 ^ (p + 300 - (p + 2))) (b := 1) (L := 100) (by omega) (by omega)
  have lp := lim_len_shl (a := 1) (n := p + 2)
  rw [Nat.one_mul] at lp
  exact ⟨szR_mk (s := false) (n := A / 2 ^ (p + 300 - (p + 2))) (d := 2 ^ (p + 2)) (L := 101) (by omega) (by omega) (by omega), szR_mk (s := false) (n := B / 2 ^ (p + 300 - (p + 2)) + 1) (d := 2 ^ (p + 2)) (L := 101) (by omega) (by omega) (by omega)⟩
set_option maxHeartbeats 1000000 in
theorem incb_I_loP {A' B' : Nat} {pI : Int} (hpI : (pI ≤ 0 ∧ p = 0) ∨ pI = (p : Int)) (hv : RatA v x L) (hL1 : 1 ≤ L) (hL : L ≤ 200) (ha : 1 ≤ a) (ha2 : a ≤ 20) (hb : 1 ≤ b) (hb2 : b ≤ 20) (hp : p ≤ 200) (h0 : 0 < x) (h1 : x + x ≤ 1)
    (rw1 : Go.Ev.Fn CX 202 [.int .i64 (a : Int), .int .i64 (b : Int), rv x, .int .i64 ((p + 300 : Nat) : Int)] (spanV A' B')) (hl : (lim A').length ≤ 100 ∧ (lim B').length ≤ 100) :
    Go.Ev.Fn CX 156 [.int .i64 (a : Int), .int .i64 (b : Int), v, .int .i64 pI] (.tup [ballR (toldLo A' p) (toldHi B' p), .bool true]) := by
  have n1 := rat_Norm hv (by omega)
  have zx := szR_of hv hL1
  have i1 := rat_Int 1 (by omega)
  have c1 := rat_Cmp (RatA_rv zx) (RatA_rv (int_szR (n := 1) (by omega))) hL1 (by omega) (by omega)
  have zr := rat_Zero (RatA_rv zx) hL1 (by omega)
  rw [decide_eq_false (by grind)] at zr
  have sm := rat_Same (RatA_rv zx) (RatA_rv (int_szR (n := 1) (by omega))) hL1 (by omega) (by omega)
  have ad := rat_Add (RatA_rv zx) (RatA_rv zx) hL1 hL1 (by omega)
  have c2 := rat_Cmp (RatA_rv (szR_add zx zx hL1)) (RatA_rv (int_szR (n := 1) (by omega))) (by omega) (by omega) (by omega)
  rw [show ((1 : Int) : Rat) = 1 from rfl] at i1 c1 sm c2
  rw [decide_eq_false (show ¬ x = 1 by grind)] at sm
  have e1 : decide (cmpR x 1 > 0) = false := by rw [cmpR_gt]; exact decide_eq_false (by grind)
  have e2 : decide (cmpR (x + x) 1 ≤ 0) = true := by rw [cmpR_le]; exact decide_eq_true h1
  have en : decide (x.num < 0) = false := by rw [neg_num]; exact decide_eq_false (by grind)
  have td := fix_Told (a := A') (b := B') (w := p + 300) (p := p + 2) (by omega) (by omega) (by omega) (by omega)
  have x1 : (if (0 : Int) > pI then (0 : Int) else pI) = (p : Int) := by split <;> omega
  have x2 : (if (200 : Int) < (p : Int) then (200 : Int) else (p : Int)) = (p : Int) := if_neg (by omega)
  rw [show ((p + 300 : Nat) : Int) = (p : Int) + 300 from rfl] at rw1 td
  rw [show ((p + 2 : Nat) : Int) = (p : Int) + 2 from rfl] at td
  unfold toldLo toldHi
  generalize mkRat ((A' / 2 ^ (p + 300 - (p + 2)) : Nat) : Int) (2 ^ (p + 2)) = q1 at *
  generalize mkRat ((B' / 2 ^ (p + 300 - (p + 2)) + 1 : Nat) : Int) (2 ^ (p + 2)) = q2 at *
  rw [erv en] at n1 c1 zr sm ad rw1
  obtain ⟨s, n, d, rfl, -⟩ := hv
  clear h0 h1
  generalize cmpR x 1 = z at *
  generalize x + x = xx at *
  generalize cmpR xx 1 = z2 at *
  refine Go.Ev.Fn.intro (fn := Tryz.f156) (body := (Tryz.f156).body.get!) (by kernel_rfl) (by kernel_rfl) (by kernel_rfl) (fun _ => rfl) (Nat.le_of_ble_eq_true (by kernel_rfl)) ?_; unfold Tryz.f156; simp only [Option.get!_some]
  repeat (first | (simp only [go_sem, en, x1, x2, e1, e2]) | (simp (disch := (first | omega | (simp only [AL, List.length_map]; omega))) only [AR, AL, ifT, ifF, take_all, List.length_cons, List.length_nil, Int.reduceToNat, Int.reducePow, Nat.reducePow, en, x1, x2, e1, e2]) | (refine wk_intro (by kernel_rfl) ?_) | (refine vp_draw (id := 9) (l := []) (by kernel_rfl) ?_) | (refine vp_draw (id := 11) (l := []) (by kernel_rfl) ?_) | (refine vf_of (by first | exact n1 | exact i1 | exact c1 | exact zr | exact sm | exact ad | exact c2 | exact rw1 | exact td) ?_))
theorem incb_I_lo {A' B' : Nat} (hv : RatA v x L) (hL1 : 1 ≤ L) (hL : L ≤ 200) (ha : 1 ≤ a) (ha2 : a ≤ 20) (hb : 1 ≤ b) (hb2 : b ≤ 20) (hp : p ≤ 200) (h0 : 0 < x) (h1 : x + x ≤ 1)
    (rw1 : Go.Ev.Fn CX 202 [.int .i64 (a : Int), .int .i64 (b : Int), rv x, .int .i64 ((p + 300 : Nat) : Int)] (spanV A' B')) (hl : (lim A').length ≤ 100 ∧ (lim B').length ≤ 100) :
    Go.Ev.Fn CX 156 [.int .i64 (a : Int), .int .i64 (b : Int), v, .int .i64 (p : Int)] (.tup [ballR (toldLo A' p) (toldHi B' p), .bool true]) := incb_I_loP (.inr rfl) hv hL1 hL ha ha2 hb hb2 hp h0 h1 rw1 hl
set_option maxHeartbeats 1000000 in
theorem incb_I_hiP {A' B' : Nat} {pI : Int} (hpI : (pI ≤ 0 ∧ p = 0) ∨ pI = (p : Int)) (hv : RatA v x L) (hL1 : 1 ≤ L) (hL : L ≤ 200) (ha : 1 ≤ a) (ha2 : a ≤ 20) (hb : 1 ≤ b) (hb2 : b ≤ 20) (hp : p ≤ 200) (h0 : 1 < x + x) (h1 : x < 1)
    (rw1 : Go.Ev.Fn CX 202 [.int .i64 (b : Int), .int .i64 (a : Int), rv (1 - x), .int .i64 ((p + 300 : Nat) : Int)] (spanV A' B')) (hl : (lim A').length ≤ 100 ∧ (lim B').length ≤ 100) :
    Go.Ev.Fn CX 156 [.int .i64 (a : Int), .int .i64 (b : Int), v, .int .i64 pI] (.tup [ballR (1 - toldHi B' p) (1 - toldLo A' p), .bool true]) := by
  have n1 := rat_Norm hv (by omega)
  have zx := szR_of hv hL1
  have i1 := rat_Int 1 (by omega)
  have c1 := rat_Cmp (RatA_rv zx) (RatA_rv (int_szR (n := 1) (by omega))) hL1 (by omega) (by omega)
  have zr := rat_Zero (RatA_rv zx) hL1 (by omega)
  rw [decide_eq_false (by grind)] at zr
  have sm := rat_Same (RatA_rv zx) (RatA_rv (int_szR (n := 1) (by omega))) hL1 (by omega) (by omega)
  have ad := rat_Add (RatA_rv zx) (RatA_rv zx) hL1 hL1 (by omega)
  have c2 := rat_Cmp (RatA_rv (szR_add zx zx hL1)) (RatA_rv (int_szR (n := 1) (by omega))) (by omega) (by omega) (by omega)
  have b1 := ball_Of (RatA_rv (int_szR (n := 1) (by omega))) (by omega)
  have sb := rat_Sub (RatA_rv (int_szR (n := 1) (by omega))) (RatA_rv zx) (by omega) hL1 (by omega)
  have one1 : szR 1 1 := ⟨lim_len_lt (by decide +kernel), lim_len_lt (by decide +kernel)⟩
  rw [show ((1 : Int) : Rat) = 1 from rfl] at i1 c1 sm c2 b1 sb
  rw [decide_eq_false (show ¬ x = 1 by grind)] at sm
  have e1 : decide (cmpR x 1 > 0) = false := by rw [cmpR_gt]; exact decide_eq_false (by grind)
  have e2 : decide (cmpR (x + x) 1 ≤ 0) = false := by rw [cmpR_le]; exact decide_eq_false (by grind)
  have en : decide (x.num < 0) = false := by rw [neg_num]; exact decide_eq_false (by grind)
  have td := fix_Told (a := A') (b := B') (w := p + 300) (p := p + 2) (by omega) (by omega) (by omega) (by omega)
  obtain ⟨z1, z2⟩ := told_sz (p := p) hp hl.1 hl.2
  have bs := ball_Sub (a := 1) (b := 1) (L := 101) (szR_mono one1 (by omega)) (szR_mono one1 (by omega)) z1 z2 (by omega) (by omega)
  have x1 : (if (0 : Int) > pI then (0 : Int) else pI) = (p : Int) := by split <;> omega
  have x2 : (if (200 : Int) < (p : Int) then (200 : Int) else (p : Int)) = (p : Int) := if_neg (by omega)
  rw [show ((p + 300 : Nat) : Int) = (p : Int) + 300 from rfl] at rw1 td
  rw [show ((p + 2 : Nat) : Int) = (p : Int) + 2 from rfl] at td
  unfold toldLo toldHi at *
  generalize mkRat ((A' / 2 ^ (p + 300 - (p + 2)) : Nat) : Int) (2 ^ (p + 2)) = q1 at *
  generalize mkRat ((B' / 2 ^ (p + 300 - (p + 2)) + 1 : Nat) : Int) (2 ^ (p + 2)) = q2 at *
  generalize 1 - q2 = w1 at *
  generalize 1 - q1 = w2 at *
  rw [erv en] at n1 c1 zr sm ad sb
  obtain ⟨s, n, d, rfl, -⟩ := hv
  clear h0 h1
  generalize cmpR x 1 = z at *
  generalize x + x = xx at *
  generalize cmpR xx 1 = z2' at *
  generalize 1 - x = y at *
  refine Go.Ev.Fn.intro (fn := Tryz.f156) (body := (Tryz.f156).body.get!) (by kernel_rfl) (by kernel_rfl) (by kernel_rfl) (fun _ => rfl) (Nat.le_of_ble_eq_true (by kernel_rfl)) ?_; unfold Tryz.f156; simp only [Option.get!_some]
  repeat (first | (simp only [go_sem, en, x1, x2, e1, e2]) | (simp (disch := (first | omega | (simp only [AL, List.length_map]; omega))) only [AR, AL, ifT, ifF, take_all, List.length_cons, List.length_nil, Int.reduceToNat, Int.reducePow, Nat.reducePow, en, x1, x2, e1, e2]) | (refine wk_intro (by kernel_rfl) ?_) | (refine vp_draw (id := 9) (l := []) (by kernel_rfl) ?_) | (refine vp_draw (id := 11) (l := []) (by kernel_rfl) ?_) | (refine vf_of (by first | exact n1 | exact i1 | exact c1 | exact zr | exact sm | exact ad | exact c2 | exact b1 | exact sb | exact rw1 | exact td | exact bs) ?_))
theorem incb_I_hi {A' B' : Nat} (hv : RatA v x L) (hL1 : 1 ≤ L) (hL : L ≤ 200) (ha : 1 ≤ a) (ha2 : a ≤ 20) (hb : 1 ≤ b) (hb2 : b ≤ 20) (hp : p ≤ 200) (h0 : 1 < x + x) (h1 : x < 1)
    (rw1 : Go.Ev.Fn CX 202 [.int .i64 (b : Int), .int .i64 (a : Int), rv (1 - x), .int .i64 ((p + 300 : Nat) : Int)] (spanV A' B')) (hl : (lim A').length ≤ 100 ∧ (lim B').length ≤ 100) :
    Go.Ev.Fn CX 156 [.int .i64 (a : Int), .int .i64 (b : Int), v, .int .i64 (p : Int)] (.tup [ballR (1 - toldHi B' p) (1 - toldLo A' p), .bool true]) := incb_I_hiP (.inr rfl) hv hL1 hL ha ha2 hb hb2 hp h0 h1 rw1 hl
end
end Go.Proofs.YtecjelnpmcnbaaaGreat
namespace Go.Proofs.YtecjelnpmcnbaaaGreat
open Go.Ev
end Go.Proofs.YtecjelnpmcnbaaaGreat
namespace Go.Proofs.YtecjelnpmcnbaaaGreat
open Go.Ev
section
variable {v : SV} {x : Rat} {L a b p : Nat}
end
end Go.Proofs.YtecjelnpmcnbaaaGreat
namespace Go.Proofs.YtecjelnpmcnbaaaGreat
open Go.Ev
section
variable {v : SV} {x : Rat} {w n : Nat}
end
end Go.Proofs.YtecjelnpmcnbaaaGreat
namespace Go.Proofs.YtecjelnpmcnbaaaGreat
open Go.Ev
section
variable {z : Rat} {p : Int} {s : Bool} {n d : List Nat}
end
end Go.Proofs.YtecjelnpmcnbaaaGreat
namespace Go.Proofs.YtecjelnpmcnbaaaGreat
open Go.Ev
theorem lim_len_p2k {n w : Nat} (h : n ≤ 2 ^ w) : (lim n).length ≤ w / 32 + 2 := by
  have := lim_len_pw (n := n) (w := w + 1) (Nat.lt_of_le_of_lt h (Nat.pow_lt_pow_right (by omega) (by omega)))
  omega
section
variable {v : SV} {x : Rat} {w n p : Nat}
end
end Go.Proofs.YtecjelnpmcnbaaaGreat
namespace Go.Proofs.YtecjelnpmcnbaaaGreat
open Go.Ev
theorem root_width4 {lo lo' hi' hi A B P : Rat} (hP : 0 < P) (a2 : lo ≤ lo') (a4 : A ≤ lo' * lo') (a5 : (lo' - lo) * P ≤ 1) (h0 : 0 ≤ lo) (b1 : 0 ≤ hi') (b3 : hi' * hi' ≤ B) (b5 : (hi - hi') * P ≤ 1) (hA : 1 ≤ A) (hAB : (B - A) * P ≤ 2) (hAB0 : A ≤ B) : (hi - lo) * P ≤ 4 := by
  have l0 : 0 ≤ lo' := Rat.le_trans h0 a2
  have l1 : 1 ≤ lo' := sq_mono (by decide) l0 (by rw [Rat.mul_one]; exact Rat.le_trans hA a4)
  have key : hi' - lo' ≤ B - A := by
    rcases Rat.le_total (a := hi') (b := lo') with g | g
    · grind
    · have h1 : (hi' - lo') * 1 ≤ (hi' - lo') * (hi' + lo') := Rat.mul_le_mul_of_nonneg_left (by grind) (by grind)
      have h2 : (hi' - lo') * (hi' + lo') = hi' * hi' - lo' * lo' := by grind
      grind
  have k2 := Rat.mul_le_mul_of_nonneg_right key (show 0 ≤ P by grind)
  have e : (hi - lo) * P = (hi - hi') * P + (hi' - lo') * P + (lo' - lo) * P := by grind
  grind
def beR : Nat × Nat := match wSt 129 41 300 3 9 1 9 1 with
  | (_, _, s, e) => (s + 20000, e + 100000)
def beOk : Bool := match wSt 129 41 300 3 9 1 9 1 with
  | (t', d', s, e) => Nat.ble t' 4 && Nat.ble d' 20 && pin ((s + 20001) * 2 + 1) fun u => pin ((e + 100008) * 2 + (s + 20001) * 2 + 2) fun v => Nat.ble (v * 2 + u * 8 + 2) (2 ^ 120)
theorem be_ok : beOk = true := by kernel_rfl
theorem be_at : (((beR.2 + 8) * 2 + (beR.1 + 1) * 2 + 2) * 2 + ((beR.1 + 1) * 2 + 1) * 8 + 2 ≤ 2 ^ 120) ∧ (wRow 129 41 5200 3 9 1 9 1).1 ≤ beR.1 ∧ (wRow 129 41 5200 3 9 1 9 1).2 ≤ beR.2 := by
  have h := be_ok
  unfold beOk at h
  unfold beR
  have st := fun t' d' s' e' => wRow_st 300 4900 3 9 1 9 1 (t' := t') (d' := d') (s' := s') (e' := e')
  rw [show 300 + 4900 = 5200 from rfl] at st
  generalize wRow 129 41 5200 3 9 1 9 1 = R at *
  generalize wSt 129 41 300 3 9 1 9 1 = r at *
  obtain ⟨t', d', s, e⟩ := r
  generalize 2 ^ 120 = K1 at *
  simp only [pin_eq, Bool.and_eq_true] at h
  obtain ⟨⟨g1, g2⟩, g3⟩ := h
  obtain ⟨a, b⟩ := st t' d' s e rfl (Nat.le_of_ble_eq_true g1) (Nat.le_of_ble_eq_true g2) (by omega)
  exact ⟨Nat.le_of_ble_eq_true g3, Nat.le_trans a (show s + 4 * 4900 ≤ s + 20000 by omega), Nat.le_trans b (show e + 20 * 4900 ≤ e + 100000 by omega)⟩
theorem two_64 {y m c : Rat} (h : y ≤ 64 * m) (g : m * 128 ≤ c) : y + y ≤ c := by grind
theorem le_64 {z : Rat} (a : z * z ≤ z * 8) (h : z ≤ 8) : z * z ≤ 64 := by grind
section
variable {n d w many : Nat}
theorem bell_rowE (hd : 0 < d) (hn : n ≤ 8 * d) (hm : 1 ≤ many) (hm2 : many ≤ 2) (ln : (lim n).length ≤ 100) (ld : (lim d).length ≤ 100) (hw0 : 8 ≤ w) (hw : w ≤ 1000) :
    ∃ A B : Nat, A ≤ B ∧ B < 2 ^ (w + 10014) ∧ B ≤ (beR.1 + 1) * 2 ^ w ∧ B ≤ A + (beR.2 + 8) ∧ (∀ s : Bool, Go.Ev.Fn CX 216 [ratV s (lim n) (lim d), .int .u64 (many : Int), .int .i64 (w : Int)] (spanV A B)) ∧
      ∀ z : Rat, z * (d : Rat) = (n : Rat) → ∃ s0, ∀ L, s0 ≤ L → Enc w A B (z * sk (z * z * (many : Rat)) 3 L) := by
  have fr := fun s => fix_RatS (s := s) (n := n) (d := d) (w := w) hd (by omega) (by omega) (by omega)
  have P : 2 ^ 8 ≤ 2 ^ w := Nat.pow_le_pow_right (by omega) hw0
  have Tle : n * 2 ^ w / d ≤ 2 ^ w * 8 := by
    refine (Nat.div_le_iff_le_mul hd).2 ?_
    have m := Nat.mul_le_mul_right (2 ^ w) hn
    have e : 8 * d * 2 ^ w = 2 ^ w * 8 * d := by rw [Nat.mul_comm, ← Nat.mul_assoc]
    omega
  have dR : (0 : Rat) < (d : Rat) := by exact_mod_cast hd
  have ez : ∀ z : Rat, z * (d : Rat) = (n : Rat) → Enc w (n * 2 ^ w / d) (n * 2 ^ w / d + 1) z := by
    intro z hz
    have f := floor_le (a := n * 2 ^ w) (d := d)
    have g := le_floor (a := n * 2 ^ w) (d := d) hd
    have k : ((n * 2 ^ w : Nat) : Rat) = z * p2 w * (d : Rat) := by
      have : ((n * 2 ^ w : Nat) : Rat) = (n : Rat) * p2 w := by exact_mod_cast rfl
      rw [this, ← hz]; grind
    rw [k] at f g
    exact ⟨le_by dR f, le_by dR g⟩
  have z8 : ∀ z : Rat, z * (d : Rat) = (n : Rat) → z ≤ 8 := by
    intro z hz
    refine le_by dR ?_
    rw [hz]
    have := Ex.castle hn
    rw [Ex.castmul] at this; exact this
  generalize n * 2 ^ w / d = T at *
  have e9 : 2 ^ (w + 9) = 2 ^ w * 512 := Nat.pow_add _ _ _
  have e8 : 2 ^ (w + 8) = 2 ^ w * 256 := Nat.pow_add _ _ _
  have e10 : 2 ^ (w + 10) = 2 ^ w * 1024 := Nat.pow_add _ _ _
  have lT := lim_len_pw (n := T) (w := w + 9) (by omega)
  have lT1 := lim_len_pw (n := T + 1) (w := w + 9) (by omega)
  have sq := fix_Mul (a := T) (b := T + 1) (c := T) (d := T + 1) (w := w) (by omega) (by omega) (by omega) (by omega) (by omega) (by omega)
  have S2 : (T + 1) * (T + 1) / 2 ^ w ≤ 2 ^ w * 64 + 17 := by
    refine (Nat.div_le_iff_le_mul (by omega)).2 ?_
    have m := Nat.mul_le_mul (show T + 1 ≤ 2 ^ w * 8 + 1 by omega) (show T + 1 ≤ 2 ^ w * 8 + 1 by omega)
    have e : (2 ^ w * 8 + 1) * (2 ^ w * 8 + 1) = (2 ^ w * 64 + 16) * 2 ^ w + 1 := by generalize 2 ^ w = y; grind
    have e' : (2 ^ w * 64 + 17) * 2 ^ w = (2 ^ w * 64 + 16) * 2 ^ w + 2 ^ w := by generalize 2 ^ w = y; grind
    omega
  have S12 : T * T / 2 ^ w ≤ (T + 1) * (T + 1) / 2 ^ w := Nat.div_le_div_right (Nat.mul_le_mul (by omega) (by omega))
  have S3 : (T + 1) * (T + 1) / 2 ^ w ≤ T * T / 2 ^ w + 18 := by
    have h : (T + 1) * (T + 1) ≤ T * T + 17 * 2 ^ w := by
      have : (T + 1) * (T + 1) = T * T + 2 * T + 1 := by grind
      omega
    have h2 := Nat.div_le_div_right (c := 2 ^ w) h
    rw [Nat.add_mul_div_right _ _ (by omega)] at h2
    omega
  have es : ∀ z : Rat, z * (d : Rat) = (n : Rat) → Enc w (T * T / 2 ^ w) ((T + 1) * (T + 1) / 2 ^ w + 1) (z * z) := fun z hz => enc_mul (ez z hz) (ez z hz)
  generalize T * T / 2 ^ w = s1 at *
  generalize (T + 1) * (T + 1) / 2 ^ w = s2 at *
  have om := nat_Of many (by omega)
  have o1 := fix_One
  have l1 := lim_len1
  have lm : (lim many).length ≤ 2 := lim_len_lt (by omega)
  have ls1 := lim_len_pw (n := s1) (w := w + 8) (by omega)
  have ls2 := lim_len_pw (n := s2 + 1) (w := w + 8) (by omega)
  have ti := fix_Times (a := s1) (b := s2 + 1) (n := many) (d := 1) (by omega) (by omega) (by omega) (by omega) (by omega)
  have et : ∀ z : Rat, z * (d : Rat) = (n : Rat) → Enc w (s1 * many / 1) ((s2 + 1) * many / 1 + 1) (z * z * (many : Rat)) := by
    intro z hz
    have e := enc_times (n := many) (d := 1) (by omega) (es z hz)
    have e2 : z * z * ((many : Nat) : Rat) / ((1 : Nat) : Rat) = z * z * (many : Rat) := by
      rw [show ((1 : Nat) : Rat) = 1 from rfl]
      generalize z * z * (many : Rat) = q
      have := Rat.div_mul_cancel (a := q) (b := 1) (by decide)
      rw [Rat.mul_one] at this; exact this
    rw [e2] at e; exact e
  have q1 : s1 * many / 1 ≤ (s2 + 1) * many / 1 + 1 := Nat.le_succ_of_le (Nat.div_le_div_right (Nat.mul_le_mul_right _ (by omega)))
  have q2 : (s2 + 1) * many / 1 + 1 ≤ 129 * 2 ^ w := by
    rw [Nat.div_one]
    have := Nat.mul_le_mul_left (s2 + 1) hm2
    omega
  have q3 : (s2 + 1) * many / 1 + 1 ≤ s1 * many / 1 + 41 := by
    rw [Nat.div_one, Nat.div_one]
    have := Nat.mul_le_mul_right many (show s2 + 1 ≤ s1 + 19 by omega)
    rw [Nat.add_mul s1 19] at this
    omega
  generalize s1 * many / 1 = Q1 at *
  generalize (s2 + 1) * many / 1 + 1 = Q2 at *
  have lQ1 := lim_len_pw (n := Q1) (w := w + 9) (by omega)
  have lQ2 := lim_len_pw (n := Q2) (w := w + 9) (by omega)
  have i0 := tInv_0 (w := w) (k0 := 3) (t1 := T) (t2 := T + 1) (a1 := T) (a2 := T + 1) (by omega) (by omega) (by omega) (by omega)
  obtain ⟨F, hF⟩ : ∃ F : Nat, F = 5200 := ⟨_, rfl⟩
  obtain ⟨A, B, hr, hAB, hB⟩ := tRow_end (w := w) (Y1 := Q1) (Y2 := Q2) (M := many * 128) (k0 := 3) (by omega) q1 (by omega) (by omega) (by omega) 1023 F 0 3 T (T + 1) T (T + 1) i0 (by omega) (by omega) (by omega)
  obtain ⟨-, w1, w2⟩ := tRow_wide (W := 129) (D := 41) q2 q1 q3 F F 3 _ _ _ _ 9 1 9 1 A B (Nat.le_refl _) (by omega) hr (by omega) (by omega) (by omega) (by omega) (by omega) (by omega)
  obtain ⟨-, w3, w4⟩ := be_at
  rw [hF] at w1 w2
  generalize wRow 129 41 5200 3 9 1 9 1 = wr at *
  have w5 := Nat.mul_le_mul_right (2 ^ w) w3
  refine ⟨A, B, hAB, hB, by rw [Nat.add_mul, Nat.one_mul]; omega, by omega, fun s => ?_, fun z hz => ?_⟩
  rotate_left
  · have en := et z hz
    have z0 := enc_nonneg (ez z hz)
    have zz : z * z * (many : Rat) ≤ 64 * (many : Rat) := by
      have a := Rat.mul_le_mul_of_nonneg_left (z8 z hz) z0
      exact Rat.mul_le_mul_of_nonneg_right (le_64 a (z8 z hz)) (nat_nonneg many)
    exact tRow_enc (c := z) (k0 := 3) (by omega) en z0 (fun i hM _ => by
      have c := Ex.castle hM
      rw [Ex.castmul, show ((128 : Nat) : Rat) = 128 from rfl] at c
      exact two_64 zz c) F 0 _ _ _ _ A B hr (by show Enc w _ _ (z * 1); rw [Rat.mul_one]; exact ez z hz) (by show Enc w _ _ (z * (0 + 1)); rw [Rat.zero_add, Rat.mul_one]; exact ez z hz)
  have lens := fun (i k t1 t2 a1 a2 : Nat) (hi : i ≤ F) (h : tInv w 3 i k t1 t2 a1 a2) => (show (lim t1).length ≤ 1000 ∧ (lim t2).length ≤ 1000 ∧ (lim a1).length ≤ 1000 ∧ (lim a2).length ≤ 1000 from by
    obtain ⟨h1, h2, h3, h4, h5⟩ := h
    have a := lim_len_pw h4
    have b := lim_len_mono h2
    have up : (i + 2) * 2 ^ (w + 10000) ≤ 2 ^ (w + 10014) := by
      have e : 2 ^ (w + 10014) = 16384 * 2 ^ (w + 10000) := by rw [show w + 10014 = 14 + (w + 10000) by omega, Nat.pow_add 2 14]
      rw [e]; exact Nat.mul_le_mul_right _ (by omega)
    have c := lim_len_pw (n := a2) (w := w + 10014) (by omega)
    have d := lim_len_mono h3
    exact ⟨by omega, by omega, by omega, by omega⟩)
  have step := fun (i k t1 t2 a1 a2 : Nat) (h : tInv w 3 i k t1 t2 a1 a2) => tInv_step (Y1 := Q1) (Y2 := Q2) (by omega) q1 (by omega) h
  have frs := fr s
  have shl : (many : Int) * 2 ^ 7 = ((many * 128 : Nat) : Int) := by omega
  clear fr ls1 ls2 S2 S12 S3 Tle e8 e9 e10 hB hAB w1 w2 w3 w4 w5 q2 q3 ez es et z8 P dR
  refine Go.Ev.Fn.intro (fn := Tryz.f216) (body := (Tryz.f216).body.get!) (by kernel_rfl) (by kernel_rfl) (by kernel_rfl) (fun _ => rfl) (Nat.le_of_ble_eq_true (by kernel_rfl)) ?_; unfold Tryz.f216; simp only [Option.get!_some]
  repeat (first | (simp only [go_sem]) | (simp (disch := (first | omega | (simp only [AL, List.length_map]; omega))) only [AR, AL, ifT, ifF, take_all, List.length_cons, List.length_nil, Int.reduceToNat, Int.reducePow, Nat.reducePow]) | (refine wk_intro (by kernel_rfl) ?_) | (refine vf_of (by first | exact frs | exact sq | exact om | exact o1 | exact ti) ?_))
  refine vp_loop_inv (fun s' => s'.tmp 1 = .sv (.int .u64 (many : Int)) ∧ s'.tmp 2 = .sv (.int .i64 (w : Int)) ∧ s'.tmp 6 = .ptr 6 0 0 ∧ s'.obj 6 0 = some [.sl 0 [], .sl 0 []] ∧ s'.tmp 7 = .ptr 7 0 0 ∧ s'.tmp 8 = .ptr 8 0 0 ∧ s'.obj 8 0 = some [natV (lim Q1), natV (lim Q2)] ∧ s'.tmp 9 = .ptr 9 0 0 ∧
      ∃ f i k t1 t2 a1 a2 : Nat, s'.tmp 10 = .sv (.int .u64 (k : Int)) ∧ f + i = F ∧ tRow w Q1 Q2 (many * 128) f k t1 t2 a1 a2 = some (A, B) ∧ s'.obj 7 0 = some [natV (lim t1), natV (lim t2)] ∧ s'.obj 9 0 = some [natV (lim a1), natV (lim a2)] ∧ tInv w 3 i k t1 t2 a1 a2)
    (fun s' => match s'.tmp 10 with | .sv (.int _ i) => 20000 - i.toNat | _ => 0) ⟨rfl, rfl, rfl, rfl, rfl, rfl, rfl, rfl, F, 0, 3, T, T + 1, T, T + 1, rfl, by omega, hr, rfl, rfl, i0⟩ ?_
  rintro s' ⟨i1, i2, i6, o6, i7, i8, o8, i9, f, i, k, t1, t2, a1, a2, i10, hfi, hgo, o7, o9, hok⟩
  obtain ⟨lt1, lt2, la1, la2⟩ := lens i k t1 t2 a1 a2 (by omega) hok
  have hk := hok.1
  have st := step i k t1 t2 a1 a2 hok
  have sm := fix_Small (a := t1) (b := t2) (by omega) (k := 2) (by omega)
  cases f with
  | zero => simp only [tRow] at hgo; cases hgo
  | succ f =>
    rw [tRow] at hgo
    by_cases hs : many * 128 ≤ k ∧ t2 < 4
    · rw [if_pos hs] at hgo
      simp only [Option.some.injEq, Prod.mk.injEq] at hgo
      obtain ⟨rfl, rfl⟩ := hgo
      rw [decide_eq_true (show t2 < 2 ^ 2 from hs.2)] at sm
      have wd := fix_Wider (a := a1) (b := a2) (n := 8) (by omega) (by omega) (by omega)
      have hs1 := hs.1
      clear step lens st hr
      repeat (first | (simp only [go_sem, i1, i2, i6, o6, i7, i8, o8, i9, i10, o7, o9, shl, Bool.not_true]) | (simp (disch := (first | omega | (simp only [AL, List.length_map]; omega))) only [AR, AL, ifT, ifF, take_all, List.length_cons, List.length_nil, Int.reduceToNat, Int.reducePow, Nat.reducePow, i1, i2, i6, o6, i7, i8, o8, i9, i10, o7, o9, shl, Bool.not_true]) | (refine wk_intro (by kernel_rfl) ?_) | (refine vf_of (by first | exact sm | exact wd) ?_))
    · rw [if_neg hs] at hgo
      obtain ⟨lu1, lu2, lb1, lb2⟩ := lens (i + 1) (k + 2) _ _ _ _ (by omega) st
      have mu := fix_Mul (a := t1) (b := t2) (c := Q1) (d := Q2) (w := w) (by omega) (by omega) (by omega) (by omega) (by omega) (by omega)
      have qk := nat_Of k (by omega)
      have lq : (lim k).length ≤ 2 := lim_len_lt (by omega)
      have z1 := lim_len_mul (a := t1) (b := Q1)
      have z2 := lim_len_mul (a := t2) (b := Q2)
      have z3 := lim_len_mono (Nat.div_le_self (t1 * Q1) (2 ^ w))
      have z4 := lim_len_add (a := t2 * Q2 / 2 ^ w) (b := 1) (L := 5000) (Nat.le_trans (lim_len_mono (Nat.div_le_self (t2 * Q2) (2 ^ w))) (by omega)) (by omega)
      have tk := fix_Times (a := t1 * Q1 / 2 ^ w) (b := t2 * Q2 / 2 ^ w + 1) (n := 1) (d := k) (by omega) (by omega) (by omega) (by omega) (by omega)
      generalize t1 * Q1 / 2 ^ w * 1 / k = u1 at *
      generalize (t2 * Q2 / 2 ^ w + 1) * 1 / k + 1 = u2 at *
      generalize t1 * Q1 / 2 ^ w = v1 at *
      generalize t2 * Q2 / 2 ^ w + 1 = v2 at *
      have ad := fix_Add (a := a1) (b := a2) (c := u1) (d := u2) (by omega) (by omega) (by omega) (by omega)
      clear step lens hr
      by_cases hs1 : k < many * 128
      · clear sm
        repeat (first | (simp only [go_sem, i1, i2, i6, o6, i7, i8, o8, i9, i10, o7, o9, shl]) | (simp (disch := (first | omega | (simp only [AL, List.length_map]; omega))) only [AR, AL, ifT, ifF, take_all, List.length_cons, List.length_nil, Int.reduceToNat, Int.reducePow, Nat.reducePow, i1, i2, i6, o6, i7, i8, o8, i9, i10, o7, o9, shl]) | (refine wk_intro (by kernel_rfl) ?_) | (refine vf_of (by first | exact mu | exact o1 | exact qk | exact tk | exact ad) ?_))
        exact ⟨⟨f, i + 1, k + 2, u1, u2, a1 + u1, a2 + u2, rfl, by omega, hgo, rfl, rfl, st⟩, by omega⟩
      · rw [decide_eq_false (show ¬ t2 < 2 ^ 2 from fun h => hs ⟨by omega, h⟩)] at sm
        repeat (first | (simp only [go_sem, i1, i2, i6, o6, i7, i8, o8, i9, i10, o7, o9, shl, Bool.not_false]) | (simp (disch := (first | omega | (simp only [AL, List.length_map]; omega))) only [AR, AL, ifT, ifF, take_all, List.length_cons, List.length_nil, Int.reduceToNat, Int.reducePow, Nat.reducePow, i1, i2, i6, o6, i7, i8, o8, i9, i10, o7, o9, shl, Bool.not_false]) | (refine wk_intro (by kernel_rfl) ?_) | (refine vf_of (by first | exact sm | exact mu | exact o1 | exact qk | exact tk | exact ad) ?_))
        exact ⟨⟨f, i + 1, k + 2, u1, u2, a1 + u1, a2 + u2, rfl, by omega, hgo, rfl, rfl, st⟩, by omega⟩
theorem bell_shareE (hm : 1 ≤ many) (hm2 : many ≤ 2) (hw0 : 8 ≤ w) (hw : w < 233 ∨ w = 256 ∨ w = 328) :
    ∃ A B : Nat, ∃ r1 r2 : Rat, Go.Ev.Fn CX 188 [.int .i64 (many : Int), .int .i64 (w : Int)] (spanV A B) ∧ A ≤ B ∧ B ≤ 2 * 2 ^ w ∧ B ≤ A + 8 ∧ 0 ≤ r1 ∧ r1 ≤ r2 ∧ r1 * r1 ≤ (many : Rat) * (SQ * SQ) ∧ (many : Rat) * (SQ * SQ) ≤ r2 * r2 ∧ ∀ r, r1 ≤ r → r ≤ r2 → Enc w A B (1 / r) := by
  obtain ⟨m1, m2, fp, h1, h2, h3, h4, z1, z2⟩ := many_pi hw0 hw
  have ri := rat_Int (many : Int) (by omega)
  have zi := int_szR (n := (many : Int)) (by omega)
  have o := ball_Of (RatA_rv zi) (by omega)
  have c1 : (1 : Rat) ≤ ((many : Int) : Rat) := by
    have : ((1 : Nat) : Rat) ≤ (many : Rat) := Ex.castle hm
    exact this
  have c2 : ((many : Int) : Rat) ≤ 2 := by
    have : (many : Rat) ≤ ((2 : Nat) : Rat) := Ex.castle hm2
    exact this
  have W := p2_pos w
  have W8 : ((256 : Nat) : Rat) ≤ p2 w := Ex.castle (show 2 ^ 8 ≤ 2 ^ w from Nat.pow_le_pow_right (by omega) hw0)
  rw [show ((256 : Nat) : Rat) = 256 from rfl] at W8
  have g12 : m1 ≤ m2 := Rat.le_trans h1 h2
  have m3 : 3 ≤ m1 := by
    have q : (31 / 10 : Rat) ≤ SQ * SQ := by decide +kernel
    have q2 : (31 / 10 : Rat) * 10 = 31 := by decide +kernel
    refine Rat.not_lt.1 fun g => ?_
    have := Rat.mul_le_mul_of_nonneg_left W8 (show 0 ≤ m2 - m1 by grind)
    grind
  have bm := ball_Mul (L := 80) (szR_mono zi (by omega)) (szR_mono zi (by omega)) (szR_mono z1 (by omega)) (szR_mono z2 (by omega)) (by omega) (by omega)
  rw [(lohi1 (show (0 : Rat) ≤ ((many : Int) : Rat) by grind) g12).1, (lohi1 (show (0 : Rat) ≤ ((many : Int) : Rat) by grind) g12).2] at bm
  have k1 : (3 : Rat) ≤ ((many : Int) : Rat) * m1 := by
    have := Rat.mul_le_mul_of_nonneg_left m3 (show (0 : Rat) ≤ ((many : Int) : Rat) by grind)
    grind
  have k2 := Rat.mul_le_mul_of_nonneg_left g12 (show (0 : Rat) ≤ ((many : Int) : Rat) by grind)
  have k3 := Rat.mul_le_mul_of_nonneg_left h1 (show (0 : Rat) ≤ ((many : Int) : Rat) by grind)
  have k4 := Rat.mul_le_mul_of_nonneg_left h2 (show (0 : Rat) ≤ ((many : Int) : Rat) by grind)
  have k5 : (((many : Int) : Rat) * m2 - ((many : Int) : Rat) * m1) * p2 w ≤ 2 := by
    have e : (((many : Int) : Rat) * m2 - ((many : Int) : Rat) * m1) * p2 w = ((many : Int) : Rat) * ((m2 - m1) * p2 w) := by grind
    rw [e]
    have a := Rat.mul_le_mul_of_nonneg_left h3 (show (0 : Rat) ≤ ((many : Int) : Rat) by grind)
    grind
  obtain ⟨lo, lo', hi', hi, fr, r1, r2, r3, r4, r5, r6, r7, r8, r9, r10, y1, y2⟩ := root_Of (L := 82) (p := w) (A := ((many : Int) : Rat) * m1) (B := ((many : Int) : Rat) * m2) (by grind) (by grind) (szR_mono (szR_mul zi z1 (by omega)) (by omega)) (szR_mono (szR_mul zi z2 (by omega)) (by omega)) (by omega) (by omega) (by omega)
  have fb := fix_Ball (w := w) (szR_mono y1 (show _ ≤ 200 by omega)) (szR_mono y2 (show _ ≤ 200 by omega)) (by omega) (by omega)
  have wd := root_width4 W r2 r4 r5 r1 r6 r8 r10 (show (1 : Rat) ≤ ((many : Int) : Rat) * m1 by grind) k5 k2
  have l1 : 3 / 2 ≤ lo' := by
    refine Rat.not_lt.1 fun g => ?_
    have e : (3 / 2 : Rat) * (3 / 2) = 9 / 4 := by decide +kernel
    have e2 : (9 / 4 : Rat) < 3 := by decide +kernel
    have p : (0 : Rat) < 3 / 2 := by decide +kernel
    have a := mul_le (Rat.le_of_lt g) (Rat.le_of_lt g) (Rat.le_of_lt p) (Rat.le_trans r1 r2)
    rw [e] at a
    grind
  have lo1 : 1 ≤ lo := by
    refine Rat.not_lt.1 fun g => ?_
    have := Rat.mul_le_mul_of_nonneg_left W8 (show 0 ≤ lo' - lo by grind)
    have p : (3 / 2 : Rat) * 2 = 3 := by decide +kernel
    grind
  have lh : lo ≤ hi := by
    have a : lo * lo ≤ hi * hi := Rat.le_trans r3 (Rat.le_trans k2 r9)
    have h0 : 0 ≤ hi := Rat.le_trans r6 r7
    exact sq_mono r1 h0 a
  obtain ⟨i1, i2, i3, i4, i5⟩ := inv_ball (w := w) (g := 4) lo1 lh wd (by have := Nat.pow_le_pow_right (n := 2) (by omega) hw0; omega) (by omega)
  have P : 2 ^ 8 ≤ 2 ^ w := Nat.pow_le_pow_right (by omega) hw0
  have hi5 : hi ≤ 5 := by
    have q : SQ * SQ ≤ 32 / 10 := by decide +kernel
    have q2 : (32 / 10 : Rat) * 10 = 32 := by decide +kernel
    have m2le : m2 ≤ 4 := by
      refine Rat.not_lt.1 fun g => ?_
      have := Rat.mul_le_mul_of_nonneg_left W8 (show 0 ≤ m2 - m1 by grind)
      grind
    have q8 : ((many : Int) : Rat) * m2 ≤ 8 := by
      have a := Rat.mul_le_mul_of_nonneg_right c2 (show 0 ≤ m2 by grind)
      grind
    have h4' : hi' ≤ 4 := by
      refine Rat.not_lt.1 fun h => ?_
      have := Rat.mul_le_mul_of_nonneg_right (Rat.le_of_lt h) r6
      grind
    refine Rat.not_lt.1 fun h => ?_
    have := Rat.mul_le_mul_of_nonneg_left W8 (show 0 ≤ hi - hi' by grind)
    grind
  have t2 : unN hi w ≤ 5 * 2 ^ w := by
    have u := (unN_le (show 0 ≤ hi by grind) w).1
    have m5 := Rat.mul_le_mul_of_nonneg_right hi5 (Rat.le_of_lt W)
    have t : ((unN hi w : Nat) : Rat) ≤ ((5 * 2 ^ w : Nat) : Rat) := by
      rw [Ex.castmul]; exact Rat.le_trans u m5
    exact_mod_cast t
  have um := unN_mono (show 0 ≤ lo by grind) lh w
  have e9 : 2 ^ (w + 9) = 2 ^ w * 512 := Nat.pow_add _ _ _
  have lA := lim_len_pw (n := unN lo w) (w := w + 9) (by omega)
  have lB := lim_len_pw (n := unN hi w + 1) (w := w + 9) (by omega)
  have iv := fix_Inverse (a := unN lo w) (b := unN hi w + 1) (w := w) (by omega) (by omega) (by omega) (by omega) (by omega)
  refine ⟨2 ^ (2 * w) / (unN hi w + 1), 2 ^ (2 * w) / unN lo w + 1, lo, hi, ?_, i1, i2, i3, by grind, lh, Rat.le_trans r3 k3, Rat.le_trans k4 r9, fun r a b => (enc_inv (w := w) (show 0 < unN lo w by omega) (ball_enc r1 a b w)).1⟩
  clear k1 k2 k3 k4 k5 r1 r2 r3 r4 r5 r6 r7 r8 r9 r10 lo1 lh h1 h2 h3 h4 g12 c1 c2 m3 wd l1 i1 i2 i3 i4 i5 hi5 t2 um
  generalize 2 ^ (2 * w) / (unN hi w + 1) = A at *
  generalize 2 ^ (2 * w) / unN lo w + 1 = B at *
  generalize ((many : Int) : Rat) * m1 = q1 at *
  generalize ((many : Int) : Rat) * m2 = q2 at *
  generalize unN hi w + 1 = u2 at *
  generalize unN lo w = u1 at *
  refine Go.Ev.Fn.intro (fn := Tryz.f188) (body := (Tryz.f188).body.get!) (by kernel_rfl) (by kernel_rfl) (by kernel_rfl) (fun _ => rfl) (Nat.le_of_ble_eq_true (by kernel_rfl)) ?_; unfold Tryz.f188; simp only [Option.get!_some]
  repeat (first | (simp only [go_sem]) | (simp (disch := (first | omega | (simp only [AL, List.length_map]; omega))) only [AR, AL, ifT, ifF, take_all, List.length_cons, List.length_nil, Int.reduceToNat, Int.reducePow, Nat.reducePow]) | (refine wk_intro (by kernel_rfl) ?_) | (refine vf_of (by first | exact ri | exact o | exact fp | exact bm | exact fr | exact fb | exact iv) ?_))
end
end Go.Proofs.YtecjelnpmcnbaaaGreat
namespace Go.Proofs.YtecjelnpmcnbaaaGreat
open Go.Ev
def arV (z y q r : Rat) (L : Nat) : Rat := z * sk y 3 L * evX (-q) L * (1 / r)
section
variable {z : Rat} {w P : Nat} {pI : Int}
theorem bell_areaE {many S1 S2 : Nat} (hz : szR z 3) (h0 : 0 ≤ z) (h8 : z ≤ 8) (hm : 1 ≤ many) (hm2 : many ≤ 2) (hw0 : 8 ≤ w) (hw : w ≤ 400) (hS : S1 ≤ S2) (hS2 : S2 ≤ 2 * 2 ^ w) (hS3 : S2 ≤ S1 + 8) :
    ∃ A B : Nat, A ≤ B ∧ B ≤ 2 ^ (w + 120) ∧ B ≤ A + 2 ^ 120 ∧ (∀ r, Enc w S1 S2 (1 / r) → ∃ s0, ∀ L, s0 ≤ L → Enc w A B (arV z (z * z * (many : Rat)) (if many = 1 then z * z / 2 else z * z) r L)) ∧ ∀ y : Rat, y = z ∨ y = -z → Go.Ev.Fn CX 187 [rv y, .int .u64 (many : Int), spanV S1 S2, .int .i64 (w : Int)] (spanV A B) := by
  have zp := Nat.le_trans hz.1 (show 3 ≤ 100 by omega)
  have zd := Nat.le_trans hz.2 (show 3 ≤ 100 by omega)
  obtain ⟨R1, R2, r1, r2, r3, r4, fr, er⟩ := bell_rowE (n := z.num.natAbs) (d := z.den) (many := many) (w := w) z.den_pos (num_le8 h0 h8) hm hm2 zp zd hw0 (by omega)
  obtain ⟨g1, -, -⟩ := be_at
  generalize beR = bR at *
  obtain ⟨q0, q64⟩ := sq_bd h0 h8
  obtain ⟨sq, hsq, sqz, sq1, sq2⟩ : ∃ sq : Rat, sq = (if many = 1 then z * z / 2 else z * z) ∧ szR sq 7 ∧ 0 ≤ sq ∧ sq ≤ 64 := by
    by_cases e : many = 1
    · refine ⟨_, rfl, ?_, ?_⟩ <;> rw [if_pos e]
      · exact szR_mono (szR_div (szR_mul hz hz (by omega)) two_len (by omega) (by omega)) (by omega)
      · have hh : z * z / 2 * 2 = z * z := Rat.div_mul_cancel (by decide)
        generalize z * z / 2 = t at *
        clear r1 r2 fr
        constructor <;> grind
    · refine ⟨_, rfl, ?_, ?_⟩ <;> rw [if_neg e]
      · exact szR_mono (szR_mul hz hz (by omega)) (by omega)
      · exact ⟨q0, q64⟩
  have zn := szR_neg sqz
  obtain ⟨F1, F2, f1, f3, f2, ff, s2, ef⟩ := bell_fall (z := -sq) (w := w) (RatA_rv zn) (by omega) (by omega) (neg64 sq1 sq2).1 (neg64 sq1 sq2).2 (den_le zn (by omega)) (by omega)
  have ng := rat_Neg (RatA_rv sqz) (by omega) (by omega)
  have i2 := rat_Int 2 (by omega)
  have dv := rat_Div (RatA_rv (szR_mul hz hz (by omega))) (RatA_rv (int_szR (n := 2) (by omega))) (by omega) (by omega) (by omega)
  rw [show ((2 : Int) : Rat) = 2 from rfl] at i2 dv
  rw [decide_eq_true (show ¬ (2 : Rat) = 0 by decide)] at dv
  have P2 : 2 ^ 8 ≤ 2 ^ w := Nat.pow_le_pow_right (by omega) hw0
  have e1 : 2 ^ (w + 2) = 2 ^ w * 4 := Nat.pow_add _ _ _
  have lR2 := lim_len_pw r2
  have lR1 := lim_len_mono r1
  have lF2 := lim_len_pw (n := F2) (w := w + 2) (by omega)
  have lF1 := lim_len_mono f1
  have lS2 := lim_len_pw (n := S2) (w := w + 2) (by omega)
  have lS1 := lim_len_mono hS
  have m1 := fix_Mul (a := R1) (b := R2) (c := F1) (d := F2) (w := w) (by omega) (by omega) (by omega) (by omega) (by omega) (by omega)
  obtain ⟨u1, u2, u3⟩ := mulS (w := w) (β := 2) (δ := 2) r1 f1 r3 (show F2 ≤ 2 * 2 ^ w by omega) r4 f3
  obtain ⟨y1, y2, y3⟩ := mulS (w := w) (β := 2) (δ := 8) u1 hS u2 hS2 u3 hS3
  have hx : z * (z.den : Rat) = ((z.num.natAbs : Nat) : Rat) := by rw [Ex.denR z, ← castZn, num_abs h0]
  obtain ⟨s1, es⟩ := er z hx
  have en : ∀ r, Enc w S1 S2 (1 / r) → ∃ s0, ∀ L, s0 ≤ L → Enc w (R1 * F1 / 2 ^ w * S1 / 2 ^ w) ((R2 * F2 / 2 ^ w + 1) * S2 / 2 ^ w + 1) (arV z (z * z * (many : Rat)) (if many = 1 then z * z / 2 else z * z) r L) := by
    intro r hr
    refine ⟨s1 + s2, fun L hL => ?_⟩
    have e := enc_mul (enc_mul (es L (by omega)) (ef L (by omega))) hr
    rw [hsq] at e
    exact e
  have tw : ∀ k q Z, q ≤ 2 ^ k → Z ≤ q * 2 ^ w → Z ≤ 2 ^ (w + k) := by
    intro k q Z hz hZ
    rw [Nat.add_comm w, Nat.pow_add]
    exact Nat.le_trans hZ (Nat.mul_le_mul_right _ hz)
  have uB := tw 118 _ _ (by omega) u2
  have sB := tw 120 _ _ (by omega) y2
  have gap : (R2 * F2 / 2 ^ w + 1) * S2 / 2 ^ w + 1 ≤ R1 * F1 / 2 ^ w * S1 / 2 ^ w + 2 ^ 120 := by omega
  clear es ef er tw g1 u2 u3 y2 y3 r3 r4 f3
  generalize R1 * F1 / 2 ^ w = U1 at *
  generalize R2 * F2 / 2 ^ w + 1 = U2 at *
  have lU2 := lim_len_p2k uB
  have lU1 := lim_len_mono u1
  have m2 := fix_Mul (a := U1) (b := U2) (c := S1) (d := S2) (w := w) (by omega) (by omega) (by omega) (by omega) (by omega) (by omega)
  refine ⟨U1 * S1 / 2 ^ w, U2 * S2 / 2 ^ w + 1, y1, sB, gap, en, fun y hy => ?_⟩
  clear en sB gap uB
  obtain ⟨s, hs⟩ : ∃ s : Bool, rv y = ratV s (lim z.num.natAbs) (lim z.den) := by
    rcases hy with rfl | rfl
    · exact ⟨_, rfl⟩
    · exact rv_neg z
  have zy : szR y 3 := by
    rcases hy with rfl | rfl
    · exact hz
    · exact szR_neg hz
  have mu := rat_Mul (RatA_rv zy) (RatA_rv zy) (by omega) (by omega) (by omega)
  have yy := sq_same hy
  rw [yy, hs] at mu
  rw [hs]
  have frs := fr s
  generalize U1 * S1 / 2 ^ w = V1 at *
  generalize U2 * S2 / 2 ^ w + 1 = V2 at *
  clear fr yy zy hy hs e1 P2 u1 r1 r2 y1 hx
  by_cases e : many = 1
  · subst e
    rw [if_pos rfl] at hsq
    rw [← hsq] at dv
    clear hsq sqz sq1 sq2 q0 q64
    generalize z * z = zz at *
    generalize -sq = nsq at *
    refine Go.Ev.Fn.intro (fn := Tryz.f187) (body := (Tryz.f187).body.get!) (by kernel_rfl) (by kernel_rfl) (by kernel_rfl) (fun _ => rfl) (Nat.le_of_ble_eq_true (by kernel_rfl)) ?_; unfold Tryz.f187; simp only [Option.get!_some]
    repeat (first | (simp only [go_sem]) | (simp (disch := (first | omega | (simp only [AL, List.length_map]; omega))) only [AR, AL, ifT, ifF, take_all, List.length_cons, List.length_nil, Int.reduceToNat, Int.reducePow, Nat.reducePow]) | (refine wk_intro (by kernel_rfl) ?_) | (refine vp_draw (id := 3) (l := []) (by kernel_rfl) ?_) | (refine vp_draw (id := 4) (l := []) (by kernel_rfl) ?_) | (refine vf_of (by first | exact mu | exact i2 | exact dv | exact frs | exact ng | exact ff | exact m1 | exact m2) ?_))
  · have e2 : many = 2 := by omega
    subst e2
    rw [if_neg (by omega)] at hsq
    rw [← hsq] at mu
    clear hsq sqz sq1 sq2 q0 q64 dv
    generalize -sq = nsq at *
    refine Go.Ev.Fn.intro (fn := Tryz.f187) (body := (Tryz.f187).body.get!) (by kernel_rfl) (by kernel_rfl) (by kernel_rfl) (fun _ => rfl) (Nat.le_of_ble_eq_true (by kernel_rfl)) ?_; unfold Tryz.f187; simp only [Option.get!_some]
    repeat (first | (simp only [go_sem]) | (simp (disch := (first | omega | (simp only [AL, List.length_map]; omega))) only [AR, AL, ifT, ifF, take_all, List.length_cons, List.length_nil, Int.reduceToNat, Int.reducePow, Nat.reducePow]) | (refine wk_intro (by kernel_rfl) ?_) | (refine vp_draw (id := 3) (l := []) (by kernel_rfl) ?_) | (refine vp_draw (id := 4) (l := []) (by kernel_rfl) ?_) | (refine vf_of (by first | exact mu | exact frs | exact ng | exact ff | exact m1 | exact m2) ?_))
theorem bell_PhiE (hz : szR z 3) (h0 : 0 < z) (h8 : z ≤ 8) (hpI : (pI ≤ 0 ∧ P = 0) ∨ pI = (P : Int)) (hP : P ≤ 104 ∨ P = 128 ∨ P = 200) :
    ∃ l h r1 r2 : Rat, l ≤ h ∧ szR l 400 ∧ szR h 400 ∧ (h - l) * p2 P ≤ 1 ∧ 0 ≤ r1 ∧ r1 ≤ r2 ∧ r1 * r1 ≤ 2 * (SQ * SQ) ∧ 2 * (SQ * SQ) ≤ r2 * r2 ∧ (∀ r, r1 ≤ r → r ≤ r2 → ∃ s0, ∀ L, s0 ≤ L → l ≤ arV z (z * z) (z * z / 2) r L ∧ arV z (z * z) (z * z / 2) r L ≤ h) ∧ (∀ v, RatA v z 3 → Go.Ev.Fn CX 149 [v, .int .i64 pI] (.tup [ballR (1 / 2 + l) (1 / 2 + h), .bool true])) ∧ (∀ v, RatA v (-z) 3 → Go.Ev.Fn CX 149 [v, .int .i64 pI] (.tup [ballR (1 / 2 + -h) (1 / 2 + -l), .bool true])) := by
  have g1 : -8 ≤ z := by grind
  have g2 : -8 ≤ -z := by grind
  have g3 : -z ≤ 8 := by grind
  have g4 : ¬ z = 0 := by grind
  have g5 : ¬ -z = 0 := by grind
  obtain ⟨S1, S2, r1, r2, fs, s1, s2, s3, a0, a1, a2', a3, sE⟩ := bell_shareE (many := 2) (w := P + 128) (by omega) (by omega) (by omega) (by omega)
  obtain ⟨A, B, a1', a2, gap, ae, fa⟩ := bell_areaE (many := 2 - 1) (w := P + 128) hz (Rat.le_of_lt h0) h8 (by omega) (by omega) (by omega) (by omega) s1 s2 s3
  obtain ⟨K, hK⟩ : ∃ K : Nat, K = 10040 := ⟨_, rfl⟩
  have e40 : 2 ^ (P + 128 + 120) < 2 ^ (P + 128 + K) := Nat.pow_lt_pow_right (by omega) (by omega)
  rw [hK] at e40
  obtain ⟨l, h, t1, t2, t3, t4, t5, t6, ft⟩ := told_span (w := P + 128) (p := P + 2) a1' (Nat.lt_of_le_of_lt a2 e40) (by omega) (by omega)
  have thin := told_thin (w := P + 128) (p := P) (by omega) (show B ≤ A + 2 ^ (P + 128 - (P + 2)) from Nat.le_trans gap (Nat.add_le_add_left (Nat.pow_le_pow_right (by omega) (by omega)) _))
  rw [← t5, ← t6] at thin
  have ve : ∀ r, r1 ≤ r → r ≤ r2 → ∃ s0, ∀ L, s0 ≤ L → l ≤ arV z (z * z) (z * z / 2) r L ∧ arV z (z * z) (z * z / 2) r L ≤ h := by
    intro r q1 q2
    obtain ⟨s0, hs⟩ := ae r (sE r q1 q2)
    refine ⟨s0, fun L hL => ?_⟩
    have e := told_in (w := P + 128) (q := P + 2) (by omega) (hs L hL)
    rw [← t5, ← t6, if_pos rfl, show z * z * ((2 - 1 : Nat) : Rat) = z * z by rw [show ((2 - 1 : Nat) : Rat) = 1 from rfl, Rat.mul_one]] at e
    exact e
  rw [show ((2 : Nat) : Rat) = 2 from rfl] at a2' a3
  clear ae sE gap e40 hK a2
  have hh := bell_held hpI (show P ≤ 200 by omega)
  have i1 := rat_Int 1 (by omega)
  have i2 := rat_Int 2 (by omega)
  have dv := rat_Div (RatA_rv (int_szR (n := 1) (by omega))) (RatA_rv (int_szR (n := 2) (by omega))) (by omega) (by omega) (by omega)
  rw [half_div, decide_eq_true (show ¬ ((2 : Int) : Rat) = 0 by decide)] at dv
  have oh := ball_Of (RatA_rv hlf_len) (by omega)
  have ng := ball_Neg t3 t4 (by omega) (by omega)
  have ad1 := ball_Add hlf_len hlf_len t3 t4 (by omega) (by omega) (by omega)
  have ad2 := ball_Add hlf_len hlf_len (szR_neg t4) (szR_neg t3) (by omega) (by omega) (by omega)
  obtain ⟨n1, n2⟩ := num_neg_iff h0
  rw [show ((P + 128 : Nat) : Int) = (P : Int) + 128 from rfl] at fs fa ft
  rw [show ((P + 2 : Nat) : Int) = (P : Int) + 2 from rfl] at ft
  refine ⟨l, h, r1, r2, t1, t3, t4, thin, a0, a1, a2', a3, ve, fun v hv => ?_, fun v hv => ?_⟩
  · have fr := bell_nigh hv (by omega) (by omega) g1 h8
    have nm := rat_Norm hv (by omega)
    have zr := rat_Zero (RatA_rv hz) (by omega) (by omega)
    rw [decide_eq_false g4] at zr
    have fa1 := fa z (.inl rfl)
    have erz : rv z = ratV false (lim z.num.natAbs) (lim z.den) := by show ratV (decide (z.num < 0)) _ _ = _; rw [n1]
    rw [erz] at nm zr fa1
    clear fa ad2 ng n2 hz h0 h8 t1 t2 t3 t4 t5 t6 thin ve a0 a1 a2' a3 a1' s1 s2 s3
    obtain ⟨s, n, d, rfl, -⟩ := hv
    generalize 1 / 2 + l = q1 at *
    generalize 1 / 2 + h = q2 at *
    generalize (1 / 2 : Rat) = hf at *
    refine Go.Ev.Fn.intro (fn := Tryz.f149) (body := (Tryz.f149).body.get!) (by kernel_rfl) (by kernel_rfl) (by kernel_rfl) (fun _ => rfl) (Nat.le_of_ble_eq_true (by kernel_rfl)) ?_; unfold Tryz.f149; simp only [Option.get!_some]
    repeat (first | (simp only [go_sem]) | (simp (disch := (first | omega | (simp only [AL, List.length_map]; omega))) only [AR, AL, ifT, ifF, take_all, List.length_cons, List.length_nil, Int.reduceToNat, Int.reducePow, Nat.reducePow]) | (refine wk_intro (by kernel_rfl) ?_) | (refine vp_draw (id := 8) (l := []) (by kernel_rfl) ?_) | (refine vp_draw (id := 11) (l := []) (by kernel_rfl) ?_) | (refine vf_of (by first | exact fr | exact nm | exact i1 | exact i2 | exact dv | exact zr | exact hh | exact fs | exact fa1 | exact ft | exact oh | exact ad1) ?_))
  · have zn := szR_neg hz
    have fr := bell_nigh hv (by omega) (by omega) g2 g3
    have nm := rat_Norm hv (by omega)
    have zr := rat_Zero (RatA_rv zn) (by omega) (by omega)
    rw [decide_eq_false g5] at zr
    have fa1 := fa (-z) (.inr rfl)
    have erz : rv (-z) = ratV true (lim (-z).num.natAbs) (lim (-z).den) := by show ratV (decide ((-z).num < 0)) _ _ = _; rw [n2]
    rw [erz] at nm zr fa1
    clear fa ad1 n1 hz h0 h8 t1 t2 t3 t4 t5 t6 thin ve a0 a1 a2' a3 a1' s1 s2 s3 zn
    obtain ⟨s, n, d, rfl, -⟩ := hv
    generalize 1 / 2 + -h = q1 at *
    generalize 1 / 2 + -l = q2 at *
    generalize (1 / 2 : Rat) = hf at *
    generalize -h = mh at *
    generalize -l = ml at *
    refine Go.Ev.Fn.intro (fn := Tryz.f149) (body := (Tryz.f149).body.get!) (by kernel_rfl) (by kernel_rfl) (by kernel_rfl) (fun _ => rfl) (Nat.le_of_ble_eq_true (by kernel_rfl)) ?_; unfold Tryz.f149; simp only [Option.get!_some]
    repeat (first | (simp only [go_sem]) | (simp (disch := (first | omega | (simp only [AL, List.length_map]; omega))) only [AR, AL, ifT, ifF, take_all, List.length_cons, List.length_nil, Int.reduceToNat, Int.reducePow, Nat.reducePow]) | (refine wk_intro (by kernel_rfl) ?_) | (refine vp_draw (id := 8) (l := []) (by kernel_rfl) ?_) | (refine vp_draw (id := 11) (l := []) (by kernel_rfl) ?_) | (refine vf_of (by first | exact fr | exact nm | exact i1 | exact i2 | exact dv | exact zr | exact hh | exact fs | exact fa1 | exact ft | exact ng | exact oh | exact ad2) ?_))
end
end Go.Proofs.YtecjelnpmcnbaaaGreat
namespace Go.Proofs.YtecjelnpmcnbaaaGreat
open Go.Ev
def arT (j : Nat) (u : Rat) : Rat := 8 * u * tk (8 * u * (8 * u)) 3 j
def arTs : Nat → Rat → Rat
  | 0, _ => 8
  | j + 1, u => 64 * u * arT j u
theorem arT_step (j : Nat) (u : Rat) : arT (j + 1) u * ((3 + 2 * j : Nat) : Rat) = arT j u * (64 * (u * u)) := by
  have h := tk_step (y := 8 * u * (8 * u)) (k0 := 3) (by omega) j
  unfold arT
  generalize tk (8 * u * (8 * u)) 3 (j + 1) = a at *
  generalize tk (8 * u * (8 * u)) 3 j = b at *
  generalize ((3 + 2 * j : Nat) : Rat) = c at *
  have e : 8 * u * a * c = 8 * u * (c * a) := by grind
  rw [e, h]; grind
theorem dif_sq (c : Rat) : Dif (fun u => c * (u * u)) (fun u => c * (u + u)) :=
  dif_congr (dif_mul (dif_const c) (dif_mul dif_id dif_id)) (fun u => rfl) (fun u => by
    show c * (u * 1 + 1 * u) + 0 * (u * u) = c * (u + u); grind)
theorem dif_arT : ∀ j, Dif (arT j) (arTs j)
  | 0 => dif_congr (dif_mul (dif_const 8) dif_id) (fun u => by show 8 * u = 8 * u * 1; grind) (fun u => by show 8 * 1 + 0 * u = (8 : Rat); grind)
  | j + 1 => by
    have ih := dif_arT j
    obtain ⟨c, hc⟩ : ∃ c : Rat, ((3 + 2 * j : Nat) : Rat) * c = 1 := ⟨1 / ((3 + 2 * j : Nat) : Rat), Ex.mul_div _ 1 (by have : (0 : Rat) < ((3 + 2 * j : Nat) : Rat) := Ex.castlt (a := 0) (by omega); grind)⟩
    refine dif_congr (dif_mul ih (dif_sq (64 * c))) (fun u => ?_) (fun u => ?_)
    · show arT j u * (64 * c * (u * u)) = arT (j + 1) u
      have h := arT_step j u
      have e : arT j u * (64 * c * (u * u)) = arT j u * (64 * (u * u)) * c := by grind
      rw [e, ← h, Rat.mul_assoc, hc, Rat.mul_one]
    · show arT j u * (64 * c * (u + u)) + arTs j u * (64 * c * (u * u)) = 64 * u * arT j u
      cases j with
      | zero =>
        have e0 : arT 0 u = 8 * u := by show 8 * u * 1 = 8 * u; grind
        have e1 : arTs 0 u = 8 := rfl
        have e3 : ((3 + 2 * 0 : Nat) : Rat) = 3 := rfl
        rw [e3] at hc
        rw [e0, e1]
        have : 8 * u * (64 * c * (u + u)) + 8 * (64 * c * (u * u)) = 512 * (u * u) * (3 * c) := by grind
        rw [this, hc]; grind
      | succ j =>
        have h := arT_step j u
        have e1 : arTs (j + 1) u = 64 * u * arT j u := rfl
        have e5 : ((3 + 2 * (j + 1) : Nat) : Rat) = ((3 + 2 * j : Nat) : Rat) + 2 := by
          rw [show 3 + 2 * (j + 1) = 3 + 2 * j + 2 by omega, Ex.castadd (3 + 2 * j) 2]; rfl
        rw [e5] at hc
        rw [e1]
        have a : arT (j + 1) u * (64 * c * (u + u)) + 64 * u * arT j u * (64 * c * (u * u)) = 64 * u * c * (arT (j + 1) u * 2 + arT j u * (64 * (u * u))) := by grind
        rw [a, ← h]
        have b : 64 * u * c * (arT (j + 1) u * 2 + arT (j + 1) u * ((3 + 2 * j : Nat) : Rat)) = 64 * u * arT (j + 1) u * ((((3 + 2 * j : Nat) : Rat) + 2) * c) := by grind
        rw [b, hc, Rat.mul_one]
def arM (j : Nat) (u : Rat) : Rat := Ex.tm (-32 * (u * u)) j
def arMs : Nat → Rat → Rat
  | 0, _ => 0
  | j + 1, u => -64 * u * arM j u
theorem arM_step (j : Nat) (u : Rat) : ((j + 1 : Nat) : Rat) * arM (j + 1) u = -32 * (u * u) * arM j u := Ex.tm_succ _ j
theorem dif_arM : ∀ j, Dif (arM j) (arMs j)
  | 0 => dif_const 1
  | j + 1 => by
    have ih := dif_arM j
    obtain ⟨c, hc⟩ : ∃ c : Rat, ((j + 1 : Nat) : Rat) * c = 1 := ⟨1 / ((j + 1 : Nat) : Rat), Ex.mul_div _ 1 (Ex.nsucc_ne j)⟩
    refine dif_congr (dif_mul ih (dif_sq (-32 * c))) (fun u => ?_) (fun u => ?_)
    · show arM j u * (-32 * c * (u * u)) = arM (j + 1) u
      have h := arM_step j u
      have e : arM j u * (-32 * c * (u * u)) = -32 * (u * u) * arM j u * c := by grind
      rw [e, ← h]
      have e2 : ((j + 1 : Nat) : Rat) * arM (j + 1) u * c = ((j + 1 : Nat) : Rat) * c * arM (j + 1) u := by grind
      rw [e2, hc, Rat.one_mul]
    · show arM j u * (-32 * c * (u + u)) + arMs j u * (-32 * c * (u * u)) = -64 * u * arM j u
      cases j with
      | zero =>
        have e1 : arMs 0 u = 0 := rfl
        have e3 : ((0 + 1 : Nat) : Rat) = 1 := rfl
        rw [e3, Rat.one_mul] at hc
        rw [e1, hc]; grind
      | succ j =>
        have h := arM_step j u
        have e1 : arMs (j + 1) u = -64 * u * arM j u := rfl
        have e5 : ((j + 1 + 1 : Nat) : Rat) = ((j + 1 : Nat) : Rat) + 1 := by rw [Ex.castadd (j + 1) 1]; rfl
        rw [e5] at hc
        rw [e1]
        have a : arM (j + 1) u * (-32 * c * (u + u)) + -64 * u * arM j u * (-32 * c * (u * u)) = -64 * u * c * (arM (j + 1) u + -32 * (u * u) * arM j u) := by grind
        rw [a, ← h]
        have b : -64 * u * c * (arM (j + 1) u + ((j + 1 : Nat) : Rat) * arM (j + 1) u) = -64 * u * arM (j + 1) u * ((((j + 1 : Nat) : Rat) + 1) * c) := by grind
        rw [b, hc, Rat.mul_one]
def arA (u : Rat) : Nat → Rat
  | 0 => 0
  | L + 1 => arA u L + arT L u
theorem arA_is (u : Rat) : ∀ L, arA u L = 8 * u * sk (8 * u * (8 * u)) 3 L
  | 0 => by show (0 : Rat) = 8 * u * 0; grind
  | L + 1 => by
    have ih := arA_is u L
    show arA u L + 8 * u * tk (8 * u * (8 * u)) 3 L = 8 * u * (sk (8 * u * (8 * u)) 3 L + tk (8 * u * (8 * u)) 3 L)
    rw [ih]; grind
theorem dif_arA : ∀ L, Dif (fun u => arA u (L + 1)) (fun u => 8 + 64 * u * arA u L)
  | 0 => dif_congr (dif_arT 0) (fun u => by show arT 0 u = 0 + arT 0 u; grind) (fun u => by show (8 : Rat) = 8 + 64 * u * 0; grind)
  | L + 1 => dif_congr (dif_add (dif_arA L) (dif_arT (L + 1))) (fun u => rfl) (fun u => by
    show 8 + 64 * u * arA u L + 64 * u * arT L u = 8 + 64 * u * (arA u L + arT L u); grind)
theorem dif_arE : ∀ L, Dif (fun u => Ex.E (-32 * (u * u)) (L + 1)) (fun u => -64 * u * Ex.E (-32 * (u * u)) L)
  | 0 => dif_congr (dif_arM 0) (fun u => by show arM 0 u = 0 + Ex.tm _ 0; rw [Rat.zero_add]; rfl) (fun u => by show (0 : Rat) = -64 * u * 0; grind)
  | L + 1 => dif_congr (dif_add (dif_arE L) (dif_arM (L + 1))) (fun u => rfl) (fun u => by
    show -64 * u * Ex.E (-32 * (u * u)) L + -64 * u * Ex.tm (-32 * (u * u)) L = -64 * u * (Ex.E (-32 * (u * u)) L + Ex.tm (-32 * (u * u)) L); grind)
theorem tk_le_tm {y : Rat} (h : 0 ≤ y) : ∀ j, tk y 3 j ≤ Ex.tm y j
  | 0 => Rat.le_refl
  | j + 1 => by
    have ih := tk_le_tm h j
    have s1 := tk_step (y := y) (k0 := 3) (by omega) j
    have s2 := Ex.tm_succ y j
    have n1 := tk_nn (k0 := 3) (by omega) h (j + 1)
    have c : ((j + 1 : Nat) : Rat) ≤ ((3 + 2 * j : Nat) : Rat) := Ex.castle (by omega)
    have p : (0 : Rat) < ((j + 1 : Nat) : Rat) := Ex.nsucc_pos j
    refine le_by p ?_
    have m := Rat.mul_le_mul_of_nonneg_right c n1
    have m2 := Rat.mul_le_mul_of_nonneg_right ih h
    grind
theorem sk_le_E {y : Rat} (h : 0 ≤ y) : ∀ L, sk y 3 L ≤ Ex.E y L
  | 0 => Rat.le_refl
  | L + 1 => by
    have ih := sk_le_E h L
    have := tk_le_tm h L
    show sk y 3 L + tk y 3 L ≤ Ex.E y L + Ex.tm y L
    grind
theorem sq_unit {u : Rat} (h0 : 0 ≤ u) (h1 : u ≤ 1) : 0 ≤ u * u ∧ u * u ≤ 1 := by
  have a := Rat.mul_nonneg h0 h0
  have b := Rat.mul_le_mul_of_nonneg_left h1 h0
  exact ⟨a, by grind⟩
theorem ar_near {u e : Rat} {L : Nat} (h0 : 0 ≤ u) (h1 : u ≤ 1) (hL : 1 ≤ L) (hm : 2 * Ex.tm 64 L ≤ e) (hL2 : (64 : Rat) + 64 ≤ ((L + 1 : Nat) : Rat)) :
    Ex.Bdd (Ex.E (-32 * (u * u)) L - 1 / Ex.E (32 * (u * u)) L) e ∧ Ex.Bdd (arM L u) e ∧ 0 ≤ arT L u ∧ arT L u ≤ 8 * e ∧ 0 ≤ arA u L ∧ arA u L ≤ 8 * Ex.t2 102 ∧ 1 / Ex.t2 102 ≤ 1 / Ex.E (32 * (u * u)) L ∧ 1 / Ex.E (32 * (u * u)) L ≤ 1 := by
  obtain ⟨q0, q1⟩ := sq_unit h0 h1
  have y0 : 0 ≤ 32 * (u * u) := by grind
  have n32 : -(32 * (u * u)) = -32 * (u * u) := by grind
  have a := E_inv y0 hL (show (32 * (u * u) + 32 * (u * u)) + (32 * (u * u) + 32 * (u * u)) ≤ _ from Rat.le_trans (by grind) hL2)
  have m64 := Ex.tm_mono (x := 32 * (u * u) + 32 * (u * u)) (y := 64) (by grind) (by grind) L
  have m32 := Ex.tm_mono (x := 32 * (u * u)) (y := 64) (by grind) (by grind) L
  have t0 := Ex.tm_nn (x := 64) (by decide) L
  have b := tm_negB y0 L
  rw [n32] at a b
  have z0 : 0 ≤ 8 * u * (8 * u) := by grind
  have z64 : 8 * u * (8 * u) ≤ 64 := by grind
  have tz := tk_nn (k0 := 3) (by omega) z0 L
  have tl := Rat.le_trans (tk_le_tm z0 L) (Ex.tm_mono z0 z64 L)
  have sz := sk_nn (k0 := 3) (by omega) z0 L
  have sl := Rat.le_trans (sk_le_E z0 L) (E_big z0 z64 L)
  have one := E_one y0 hL
  have big := E_big y0 (by grind) L
  have K := Ex.t2_pos 102
  have i1 : Ex.E (32 * (u * u)) L * (1 / Ex.E (32 * (u * u)) L) = 1 := Ex.mul_div _ 1 (by grind)
  have i2 : Ex.t2 102 * (1 / Ex.t2 102) = 1 := Ex.mul_div _ 1 (by grind)
  have p1 : 0 ≤ 1 / Ex.E (32 * (u * u)) L := Ex.div_nn (by decide) (by grind)
  have p2 : 0 ≤ 1 / Ex.t2 102 := Ex.div_nn (by decide) K
  have r1 := Rat.mul_le_mul_of_nonneg_right one p1
  have r2 := Rat.mul_le_mul_of_nonneg_right big (Rat.mul_nonneg p1 p2)
  have k1 : Ex.E (32 * (u * u)) L * (1 / Ex.E (32 * (u * u)) L * (1 / Ex.t2 102)) = 1 / Ex.t2 102 := by rw [← Rat.mul_assoc, i1, Rat.one_mul]
  have k2 : Ex.t2 102 * (1 / Ex.E (32 * (u * u)) L * (1 / Ex.t2 102)) = 1 / Ex.E (32 * (u * u)) L := by
    have : Ex.t2 102 * (1 / Ex.E (32 * (u * u)) L * (1 / Ex.t2 102)) = 1 / Ex.E (32 * (u * u)) L * (Ex.t2 102 * (1 / Ex.t2 102)) := by grind
    rw [this, i2, Rat.mul_one]
  rw [k1, k2] at r2
  rw [i1, Rat.one_mul] at r1
  refine ⟨Ex.Bdd_mono a (by grind), Ex.Bdd_mono b (by grind), Rat.mul_nonneg (by grind) tz, ?_, ?_, ?_, r2, r1⟩
  · show 8 * u * tk (8 * u * (8 * u)) 3 L ≤ 8 * e
    have m := mul_le (show 8 * u ≤ 8 by grind) tl (by decide) tz
    grind
  · rw [arA_is]; exact Rat.mul_nonneg (by grind) sz
  · rw [arA_is]; exact mul_le (show 8 * u ≤ 8 by grind) sl (by decide) sz
theorem ar_slope {u e K A M T B B1 : Rat} (h0 : 0 ≤ u) (h1 : u ≤ 1) (K1 : 1 ≤ K) (he : 0 ≤ e) (hk : e * (K * (K * 2000)) ≤ 1) (hA0 : 0 ≤ A) (hA : A ≤ 8 * K) (hM : Ex.Bdd M e) (hT0 : 0 ≤ T) (hT : T ≤ 8 * e) (hB : Ex.Bdd B 2) (hB1 : 1 / K - e ≤ B1) : 0 ≤ 8 * B1 + 64 * u * (A * M - T * B) := by
  have K0 : 0 < K := by grind
  have i2 : K * (1 / K) = 1 := Ex.mul_div _ 1 (by grind)
  have e1 : e * (K * 2000) ≤ 1 / K := by
    refine le_by K0 ?_
    have : e * (K * 2000) * K = e * (K * (K * 2000)) := by grind
    rw [this, Rat.mul_comm (1 / K), i2]; exact hk
  have eK : e ≤ e * K := by
    have := Rat.mul_le_mul_of_nonneg_left K1 he
    rw [Rat.mul_one] at this; exact this
  have eK0 : 0 ≤ e * K := Rat.mul_nonneg he (by grind)
  have b1 := Ex.Bdd_mul (show Ex.Bdd A (8 * K) from ⟨by grind, hA⟩) hM
  have b2 := Ex.Bdd_mul (show Ex.Bdd T (8 * e) from ⟨by grind, hT⟩) hB
  have b3 := Ex.Bdd_mul (show Ex.Bdd u 1 from ⟨by grind, h1⟩) (Ex.Bdd_sub b1 b2)
  obtain ⟨l, -⟩ := b3
  have g : 8 * K * e = 8 * (e * K) := by grind
  have g2 : 1 * (8 * K * e + 8 * e * 2) ≤ 24 * (e * K) := by grind
  have g3 : 64 * u * (A * M - T * B) = 64 * (u * (A * M - T * B)) := by grind
  have g4 : e * (K * 2000) = 2000 * (e * K) := by grind
  rw [g3]
  generalize u * (A * M - T * B) = X at *
  generalize e * K = Z at *
  generalize 1 / K = R at *
  clear b1 b2 hA hM hT hB hk
  grind
theorem area_rises {x y e : Rat} (hx : 0 < x) (hxy : x ≤ y) (hy : y ≤ 8) (he : 0 < e) : ∃ N : Nat, ∀ L, N ≤ L → x * sk (x * x) 3 L * evX (-(x * x / 2)) L ≤ y * sk (y * y) 3 L * evX (-(y * y / 2)) L + e := by
  obtain ⟨K, hK⟩ : ∃ K : Rat, K = Ex.t2 102 := ⟨_, rfl⟩
  have K1 : 1 ≤ K := by rw [hK]; exact Ex.castle (show 1 ≤ 2 ^ 102 by decide +kernel)
  have Kp : 0 < K := by grind
  obtain ⟨d, hd0, hd1, hd2⟩ : ∃ d : Rat, 0 < d ∧ d * (K * (K * 2000)) ≤ 1 ∧ d * (16 * K) ≤ e := by
    have KK := Rat.mul_pos Kp (Rat.mul_pos Kp (show (0 : Rat) < 2000 by decide))
    have E0 : 0 < 16 * K / e := by rw [Rat.div_def]; exact Rat.mul_pos (by grind) (Rat.inv_pos.2 he)
    have ee : 16 * K / e * e = 16 * K := Rat.div_mul_cancel (by grind)
    obtain ⟨D, hD⟩ : ∃ D, D = K * (K * 2000) + 16 * K / e := ⟨_, rfl⟩
    have Dp : 0 < D := by rw [hD]; grind
    have i : D * (1 / D) = 1 := Ex.mul_div _ 1 (by grind)
    have ip : 0 < 1 / D := by rw [Rat.div_def, Rat.one_mul]; exact Rat.inv_pos.2 Dp
    refine ⟨1 / D, ip, ?_, ?_⟩
    · have := Rat.mul_le_mul_of_nonneg_left (show K * (K * 2000) ≤ D by rw [hD]; grind) (Rat.le_of_lt ip)
      rw [Rat.mul_comm (1 / D) D, i] at this; exact this
    · have m := Rat.mul_le_mul_of_nonneg_left (show 16 * K / e ≤ D by rw [hD]; grind) (Rat.le_of_lt ip)
      rw [Rat.mul_comm (1 / D) D, i] at m
      have m2 := Rat.mul_le_mul_of_nonneg_right m (Rat.le_of_lt he)
      rw [Rat.mul_assoc, ee, Rat.one_mul] at m2
      exact m2
  obtain ⟨N, hN⟩ := Ex.tm_small (y := 64) (by decide) hd0
  refine ⟨N + 2, fun L hL => ?_⟩
  obtain ⟨u, hu⟩ : ∃ u : Rat, x = 8 * u := ⟨x / 8, by rw [Ex.mul_div _ _ (by decide)]⟩
  obtain ⟨v, hv⟩ : ∃ v : Rat, y = 8 * v := ⟨y / 8, by rw [Ex.mul_div _ _ (by decide)]⟩
  obtain ⟨k, rfl⟩ : ∃ k, L = k + 1 := ⟨L - 1, by omega⟩
  have near := fun (t : Rat) (t0 : 0 ≤ t) (t1 : t ≤ 1) (m : Nat) (hm : N + 1 ≤ m) => ar_near (u := t) (e := d) (L := m) t0 t1 (by omega) (hN m (by omega)).2 (hN m (by omega)).1
  have mono : arA u (k + 1) * Ex.E (-32 * (u * u)) (k + 1) ≤ arA v (k + 1) * Ex.E (-32 * (v * v)) (k + 1) := by
    refine dif_mono (dif_mul (dif_arA k) (dif_arE k)) (show 0 ≤ u by grind) (show u ≤ v by grind) (show v ≤ 1 by grind) fun t h1 h2 => ?_
    have t0 : 0 ≤ t := by grind
    have t1 : t ≤ 1 := by grind
    obtain ⟨n1, n2, n3, n4, n5, n6, n7, n8⟩ := near t t0 t1 k (by omega)
    obtain ⟨g1, g2, g3, g4, g5, g6, g7, g8⟩ := near t t0 t1 (k + 1) (by omega)
    have e1 : arA t (k + 1) = arA t k + arT k t := rfl
    have e2 : Ex.E (-32 * (t * t)) (k + 1) = Ex.E (-32 * (t * t)) k + arM k t := rfl
    have s := ar_slope (u := t) (e := d) (K := K) (A := arA t k) (M := arM k t) (T := arT k t) (B := Ex.E (-32 * (t * t)) k) (B1 := Ex.E (-32 * (t * t)) (k + 1)) t0 t1 K1 (Rat.le_of_lt hd0) hd1 n5 (by rw [hK]; exact n6) n2 n3 n4 (by
      obtain ⟨a, b⟩ := n1
      have d1 : d ≤ 1 := by
        have KK : 1 ≤ K * (K * 2000) := by
          have a := mul_le (show 1 ≤ K from K1) (show 1 ≤ K * 2000 by grind) (by grind) (by decide)
          rw [Rat.one_mul] at a; exact a
        have := Rat.mul_le_mul_of_nonneg_left KK (Rat.le_of_lt hd0)
        grind
      have p : 0 ≤ 1 / Ex.E (32 * (t * t)) k := Rat.le_trans (Ex.div_nn (by decide) (Ex.t2_pos 102)) n7
      constructor <;> grind) (by
      obtain ⟨a, b⟩ := g1
      rw [hK]; grind)
    have fin : arA t (k + 1) * (-64 * t * Ex.E (-32 * (t * t)) k) + (8 + 64 * t * arA t k) * Ex.E (-32 * (t * t)) (k + 1) = 8 * Ex.E (-32 * (t * t)) (k + 1) + 64 * t * (arA t k * arM k t - arT k t * Ex.E (-32 * (t * t)) k) := by
      rw [e1, e2]; grind
    show 0 ≤ arA t (k + 1) * (-64 * t * Ex.E (-32 * (t * t)) k) + (8 + 64 * t * arA t k) * Ex.E (-32 * (t * t)) (k + 1)
    rw [fin]; exact s
  have val : ∀ t z : Rat, z = 8 * t → 0 < z → z ≤ 8 → Ex.Bdd (z * sk (z * z) 3 (k + 1) * evX (-(z * z / 2)) (k + 1) - arA t (k + 1) * Ex.E (-32 * (t * t)) (k + 1)) (8 * K * d) := by
    intro t z hz z0 z8
    obtain ⟨g1, g2, g3, g4, g5, g6, g7, g8⟩ := near t (by grind) (by grind) (k + 1) (by omega)
    have zz : 0 < z * z := Rat.mul_pos z0 z0
    have q : z * z / 2 = 32 * (t * t) := by
      have h := Rat.div_mul_cancel (a := z * z) (b := 2) (by decide)
      have : z * z = 32 * (t * t) * 2 := by rw [hz]; grind
      generalize z * z / 2 = w at *
      grind
    have ev : evX (-(z * z / 2)) (k + 1) = 1 / Ex.E (32 * (t * t)) (k + 1) := by
      have tt : 0 < 32 * (t * t) := by rw [← q]; have h := Rat.div_mul_cancel (a := z * z) (b := 2) (by decide); generalize z * z / 2 = w at *; grind
      unfold evX
      rw [q, if_pos (by grind), Rat.neg_neg]
    have ea : z * sk (z * z) 3 (k + 1) = arA t (k + 1) := by rw [arA_is, hz]
    rw [ev, ea]
    have b := Ex.Bdd_mul (show Ex.Bdd (arA t (k + 1)) (8 * K) from ⟨by grind, by rw [hK]; exact g6⟩) g1
    obtain ⟨b1, b2⟩ := b
    constructor <;> grind
  obtain ⟨v1, v2⟩ := val u x hu hx (by grind)
  obtain ⟨w1, w2⟩ := val v y hv (by grind) hy
  generalize x * sk (x * x) 3 (k + 1) * evX (-(x * x / 2)) (k + 1) = X at *
  generalize y * sk (y * y) 3 (k + 1) * evX (-(y * y / 2)) (k + 1) = Y at *
  have e8 : 8 * K * d + 8 * K * d = d * (16 * K) := by grind
  grind
theorem arV_rises {x y r l h : Rat} {s1 s2 : Nat} (hx : 0 < x) (hxy : x ≤ y) (hy : y ≤ 8) (hr : 0 ≤ r) (h1 : ∀ L, s1 ≤ L → l ≤ arV x (x * x) (x * x / 2) r L) (h2 : ∀ L, s2 ≤ L → arV y (y * y) (y * y / 2) r L ≤ h) : l ≤ h := by
  refine Rat.not_lt.1 fun g => ?_
  obtain ⟨R, hR⟩ : ∃ R : Rat, R = 1 / r := ⟨_, rfl⟩
  have R0 : 0 ≤ R := by
    rw [hR, Rat.div_def, Rat.one_mul]
    by_cases e : r = 0
    · rw [e]; decide +kernel
    · exact Rat.le_of_lt (Rat.inv_pos.2 (by grind))
  have Rp : 0 < R + 1 := by grind
  obtain ⟨e, he, hee⟩ : ∃ e : Rat, 0 < e ∧ e * (R + 1) = l - h := ⟨(l - h) / (R + 1), by rw [Rat.div_def]; exact Rat.mul_pos (by grind) (Rat.inv_pos.2 Rp), Rat.div_mul_cancel (by grind)⟩
  obtain ⟨N, hN⟩ := area_rises hx hxy hy he
  have a := h1 (s1 + s2 + N) (by omega)
  have b := h2 (s1 + s2 + N) (by omega)
  have c := Rat.mul_le_mul_of_nonneg_right (hN (s1 + s2 + N) (by omega)) R0
  unfold arV at a b
  rw [← hR] at a b
  generalize x * sk (x * x) 3 (s1 + s2 + N) * evX (-(x * x / 2)) (s1 + s2 + N) = X at *
  generalize y * sk (y * y) 3 (s1 + s2 + N) * evX (-(y * y / 2)) (s1 + s2 + N) = Y at *
  have : e * R < l - h := by rw [← hee]; grind
  grind
end Go.Proofs.YtecjelnpmcnbaaaGreat
namespace Go.Proofs.YtecjelnpmcnbaaaGreat
open Go.Ev
theorem ar_slopeG {u e K A M T B B1 : Rat} (h0 : 0 ≤ u) (h1 : u ≤ 1) (K1 : 1 ≤ K) (he : 0 ≤ e) (hk : e * (K * (K * 2000)) ≤ 1) (hA0 : 0 ≤ A) (hA : A ≤ 8 * K) (hM : Ex.Bdd M e) (hT0 : 0 ≤ T) (hT : T ≤ 8 * e) (hB : Ex.Bdd B 2) (hB1 : 1 / K - e ≤ B1) : 1 / K ≤ 8 * B1 + 64 * u * (A * M - T * B) := by
  have K0 : 0 < K := by grind
  have i2 : K * (1 / K) = 1 := Ex.mul_div _ 1 (by grind)
  have e1 : e * (K * 2000) ≤ 1 / K := by
    refine le_by K0 ?_
    have : e * (K * 2000) * K = e * (K * (K * 2000)) := by grind
    rw [this, Rat.mul_comm (1 / K), i2]; exact hk
  have eK : e ≤ e * K := by
    have := Rat.mul_le_mul_of_nonneg_left K1 he
    rw [Rat.mul_one] at this; exact this
  have eK0 : 0 ≤ e * K := Rat.mul_nonneg he (by grind)
  have b1 := Ex.Bdd_mul (show Ex.Bdd A (8 * K) from ⟨by grind, hA⟩) hM
  have b2 := Ex.Bdd_mul (show Ex.Bdd T (8 * e) from ⟨by grind, hT⟩) hB
  have b3 := Ex.Bdd_mul (show Ex.Bdd u 1 from ⟨by grind, h1⟩) (Ex.Bdd_sub b1 b2)
  obtain ⟨l, -⟩ := b3
  have g : 8 * K * e = 8 * (e * K) := by grind
  have g2 : 1 * (8 * K * e + 8 * e * 2) ≤ 24 * (e * K) := by grind
  have g3 : 64 * u * (A * M - T * B) = 64 * (u * (A * M - T * B)) := by grind
  have g4 : e * (K * 2000) = 2000 * (e * K) := by grind
  rw [g3]
  generalize u * (A * M - T * B) = X at *
  generalize e * K = Z at *
  generalize 1 / K = R at *
  clear b1 b2 hA hM hT hB hk
  grind
theorem area_grows {x y e : Rat} (hx : 0 < x) (hxy : x ≤ y) (hy : y ≤ 8) (he : 0 < e) : ∃ N : Nat, ∀ L, N ≤ L → x * sk (x * x) 3 L * evX (-(x * x / 2)) L + (y - x) / 8 * (1 / Ex.t2 102) ≤ y * sk (y * y) 3 L * evX (-(y * y / 2)) L + e := by
  obtain ⟨K, hK⟩ : ∃ K : Rat, K = Ex.t2 102 := ⟨_, rfl⟩
  have K1 : 1 ≤ K := by rw [hK]; exact Ex.castle (show 1 ≤ 2 ^ 102 by decide +kernel)
  have Kp : 0 < K := by grind
  obtain ⟨d, hd0, hd1, hd2⟩ : ∃ d : Rat, 0 < d ∧ d * (K * (K * 2000)) ≤ 1 ∧ d * (16 * K) ≤ e := by
    have KK := Rat.mul_pos Kp (Rat.mul_pos Kp (show (0 : Rat) < 2000 by decide))
    have E0 : 0 < 16 * K / e := by rw [Rat.div_def]; exact Rat.mul_pos (by grind) (Rat.inv_pos.2 he)
    have ee : 16 * K / e * e = 16 * K := Rat.div_mul_cancel (by grind)
    obtain ⟨D, hD⟩ : ∃ D, D = K * (K * 2000) + 16 * K / e := ⟨_, rfl⟩
    have Dp : 0 < D := by rw [hD]; grind
    have i : D * (1 / D) = 1 := Ex.mul_div _ 1 (by grind)
    have ip : 0 < 1 / D := by rw [Rat.div_def, Rat.one_mul]; exact Rat.inv_pos.2 Dp
    refine ⟨1 / D, ip, ?_, ?_⟩
    · have := Rat.mul_le_mul_of_nonneg_left (show K * (K * 2000) ≤ D by rw [hD]; grind) (Rat.le_of_lt ip)
      rw [Rat.mul_comm (1 / D) D, i] at this; exact this
    · have m := Rat.mul_le_mul_of_nonneg_left (show 16 * K / e ≤ D by rw [hD]; grind) (Rat.le_of_lt ip)
      rw [Rat.mul_comm (1 / D) D, i] at m
      have m2 := Rat.mul_le_mul_of_nonneg_right m (Rat.le_of_lt he)
      rw [Rat.mul_assoc, ee, Rat.one_mul] at m2
      exact m2
  obtain ⟨N, hN⟩ := Ex.tm_small (y := 64) (by decide) hd0
  refine ⟨N + 2, fun L hL => ?_⟩
  obtain ⟨u, hu⟩ : ∃ u : Rat, x = 8 * u := ⟨x / 8, by rw [Ex.mul_div _ _ (by decide)]⟩
  obtain ⟨v, hv⟩ : ∃ v : Rat, y = 8 * v := ⟨y / 8, by rw [Ex.mul_div _ _ (by decide)]⟩
  obtain ⟨k, rfl⟩ : ∃ k, L = k + 1 := ⟨L - 1, by omega⟩
  have near := fun (t : Rat) (t0 : 0 ≤ t) (t1 : t ≤ 1) (m : Nat) (hm : N + 1 ≤ m) => ar_near (u := t) (e := d) (L := m) t0 t1 (by omega) (hN m (by omega)).2 (hN m (by omega)).1
  obtain ⟨R, hR⟩ : ∃ R : Rat, R = 1 / K := ⟨_, rfl⟩
  have mono : arA u (k + 1) * Ex.E (-32 * (u * u)) (k + 1) + -R * u ≤ arA v (k + 1) * Ex.E (-32 * (v * v)) (k + 1) + -R * v := by
    refine dif_mono (dif_add (dif_mul (dif_arA k) (dif_arE k)) (dif_mul (dif_const (-R)) dif_id)) (show 0 ≤ u by grind) (show u ≤ v by grind) (show v ≤ 1 by grind) fun t h1 h2 => ?_
    have t0 : 0 ≤ t := by grind
    have t1 : t ≤ 1 := by grind
    obtain ⟨n1, n2, n3, n4, n5, n6, n7, n8⟩ := near t t0 t1 k (by omega)
    obtain ⟨g1, g2, g3, g4, g5, g6, g7, g8⟩ := near t t0 t1 (k + 1) (by omega)
    have e1 : arA t (k + 1) = arA t k + arT k t := rfl
    have e2 : Ex.E (-32 * (t * t)) (k + 1) = Ex.E (-32 * (t * t)) k + arM k t := rfl
    have s := ar_slopeG (u := t) (e := d) (K := K) (A := arA t k) (M := arM k t) (T := arT k t) (B := Ex.E (-32 * (t * t)) k) (B1 := Ex.E (-32 * (t * t)) (k + 1)) t0 t1 K1 (Rat.le_of_lt hd0) hd1 n5 (by rw [hK]; exact n6) n2 n3 n4 (by
      obtain ⟨a, b⟩ := n1
      have d1 : d ≤ 1 := by
        have KK : 1 ≤ K * (K * 2000) := by
          have a := mul_le (show 1 ≤ K from K1) (show 1 ≤ K * 2000 by grind) (by grind) (by decide)
          rw [Rat.one_mul] at a; exact a
        have := Rat.mul_le_mul_of_nonneg_left KK (Rat.le_of_lt hd0)
        grind
      have p : 0 ≤ 1 / Ex.E (32 * (t * t)) k := Rat.le_trans (Ex.div_nn (by decide) (Ex.t2_pos 102)) n7
      constructor <;> grind) (by
      obtain ⟨a, b⟩ := g1
      rw [hK]; grind)
    have fin : arA t (k + 1) * (-64 * t * Ex.E (-32 * (t * t)) k) + (8 + 64 * t * arA t k) * Ex.E (-32 * (t * t)) (k + 1) = 8 * Ex.E (-32 * (t * t)) (k + 1) + 64 * t * (arA t k * arM k t - arT k t * Ex.E (-32 * (t * t)) k) := by
      rw [e1, e2]; grind
    show 0 ≤ arA t (k + 1) * (-64 * t * Ex.E (-32 * (t * t)) k) + (8 + 64 * t * arA t k) * Ex.E (-32 * (t * t)) (k + 1) + (-R * 1 + 0 * t)
    rw [fin, hR]
    generalize 8 * Ex.E (-32 * (t * t)) (k + 1) + 64 * t * (arA t k * arM k t - arT k t * Ex.E (-32 * (t * t)) k) = Z at *
    generalize 1 / K = R' at *
    clear near hN n1 n2 g1 g2 e2 fin
    grind
  have val : ∀ t z : Rat, z = 8 * t → 0 < z → z ≤ 8 → Ex.Bdd (z * sk (z * z) 3 (k + 1) * evX (-(z * z / 2)) (k + 1) - arA t (k + 1) * Ex.E (-32 * (t * t)) (k + 1)) (8 * K * d) := by
    intro t z hz z0 z8
    obtain ⟨g1, g2, g3, g4, g5, g6, g7, g8⟩ := near t (by grind) (by grind) (k + 1) (by omega)
    have zz : 0 < z * z := Rat.mul_pos z0 z0
    have q : z * z / 2 = 32 * (t * t) := by
      have h := Rat.div_mul_cancel (a := z * z) (b := 2) (by decide)
      have : z * z = 32 * (t * t) * 2 := by rw [hz]; grind
      generalize z * z / 2 = w at *
      grind
    have ev : evX (-(z * z / 2)) (k + 1) = 1 / Ex.E (32 * (t * t)) (k + 1) := by
      have tt : 0 < 32 * (t * t) := by rw [← q]; have h := Rat.div_mul_cancel (a := z * z) (b := 2) (by decide); generalize z * z / 2 = w at *; grind
      unfold evX
      rw [q, if_pos (by grind), Rat.neg_neg]
    have ea : z * sk (z * z) 3 (k + 1) = arA t (k + 1) := by rw [arA_is, hz]
    rw [ev, ea]
    have b := Ex.Bdd_mul (show Ex.Bdd (arA t (k + 1)) (8 * K) from ⟨by grind, by rw [hK]; exact g6⟩) g1
    obtain ⟨b1, b2⟩ := b
    constructor <;> grind
  obtain ⟨v1, v2⟩ := val u x hu hx (by grind)
  obtain ⟨w1, w2⟩ := val v y hv (by grind) hy
  rw [← hK, ← hR]
  have ex : (y - x) / 8 * R = R * v - R * u := by
    rw [hu, hv]; grind
  rw [ex]
  generalize x * sk (x * x) 3 (k + 1) * evX (-(x * x / 2)) (k + 1) = X at *
  generalize y * sk (y * y) 3 (k + 1) * evX (-(y * y / 2)) (k + 1) = Y at *
  have e8 : 8 * K * d + 8 * K * d = d * (16 * K) := by grind
  clear ex near hN
  grind
theorem arV_grows {x y r l h : Rat} {s1 s2 : Nat} (hx : 0 < x) (hxy : x ≤ y) (hy : y ≤ 8) (hr : 0 < r) (h1 : ∀ L, s1 ≤ L → l ≤ arV x (x * x) (x * x / 2) r L) (h2 : ∀ L, s2 ≤ L → arV y (y * y) (y * y / 2) r L ≤ h) : l + (y - x) / 8 * (1 / Ex.t2 102) * (1 / r) ≤ h := by
  refine Rat.not_lt.1 fun g => ?_
  obtain ⟨R, hR⟩ : ∃ R : Rat, R = 1 / r := ⟨_, rfl⟩
  have R0 : 0 < R := by
    rw [hR, Rat.div_def, Rat.one_mul]
    exact Rat.inv_pos.2 hr
  obtain ⟨G, hG⟩ : ∃ G : Rat, G = (y - x) / 8 * (1 / Ex.t2 102) := ⟨_, rfl⟩
  rw [← hR, ← hG] at g
  obtain ⟨e, he, hee⟩ : ∃ e : Rat, 0 < e ∧ e * (R + 1) = l + G * R - h := ⟨(l + G * R - h) / (R + 1), by rw [Rat.div_def]; exact Rat.mul_pos (by grind) (Rat.inv_pos.2 (by grind)), Rat.div_mul_cancel (by grind)⟩
  obtain ⟨N, hN⟩ := area_grows hx hxy hy he
  have a := h1 (s1 + s2 + N) (by omega)
  have b := h2 (s1 + s2 + N) (by omega)
  have c := Rat.mul_le_mul_of_nonneg_right (hN (s1 + s2 + N) (by omega)) (Rat.le_of_lt R0)
  rw [← hG] at c
  unfold arV at a b
  rw [← hR] at a b
  generalize x * sk (x * x) 3 (s1 + s2 + N) * evX (-(x * x / 2)) (s1 + s2 + N) = X at *
  generalize y * sk (y * y) 3 (s1 + s2 + N) * evX (-(y * y / 2)) (s1 + s2 + N) = Y at *
  have : e * R < l + G * R - h := by rw [← hee]; grind
  grind
end Go.Proofs.YtecjelnpmcnbaaaGreat
namespace Go.Proofs.YtecjelnpmcnbaaaGreat
open Go.Ev
structure RtP (r1 r2 : Rat) : Prop where
  nn : 0 ≤ r1
  le : r1 ≤ r2
  low : r1 * r1 ≤ 2 * (SQ * SQ)
  high : 2 * (SQ * SQ) ≤ r2 * r2
def LoP (z l : Rat) : Prop := ∃ r1 r2, RtP r1 r2 ∧ ∀ r, r1 ≤ r → r ≤ r2 → ∃ s : Nat, ∀ L, s ≤ L → l ≤ arV z (z * z) (z * z / 2) r L
def HiP (z h : Rat) : Prop := ∃ r1 r2, RtP r1 r2 ∧ ∀ r, r1 ≤ r → r ≤ r2 → ∃ s : Nat, ∀ L, s ≤ L → arV z (z * z) (z * z / 2) r L ≤ h
theorem sq_two : 2 * (SQ * SQ) ≤ (251 / 100) * (251 / 100) ∧ 0 < 2 * (SQ * SQ) := by decide +kernel
section
variable {a1 a2 b1 b2 x y z l h : Rat}
theorem root_le (ha : 0 ≤ a1) (hb : 0 ≤ b2) (h1 : a1 * a1 ≤ x) (h2 : x ≤ b2 * b2) : a1 ≤ b2 := by
  refine Rat.not_lt.1 fun g => ?_
  have m1 := Rat.mul_lt_mul_of_pos_left g (show 0 < a1 by grind)
  have m2 := Rat.mul_le_mul_of_nonneg_left (Rat.le_of_lt g) hb
  grind
theorem rt_common (A : RtP a1 a2) (B : RtP b1 b2) : ∃ r : Rat, 0 < r ∧ r ≤ 251 / 100 ∧ a1 ≤ r ∧ r ≤ a2 ∧ b1 ≤ r ∧ r ≤ b2 := by
  obtain ⟨u, w⟩ := sq_two
  have c0 : (0 : Rat) ≤ 251 / 100 := by decide +kernel
  have A2 : 0 ≤ a2 := Rat.le_trans A.nn A.le
  have B2 : 0 ≤ b2 := Rat.le_trans B.nn B.le
  have pos : ∀ t : Rat, 0 ≤ t → 2 * (SQ * SQ) ≤ t * t → 0 < t := by
    intro t t0 tt
    rcases Rat.le_iff_lt_or_eq.1 t0 with g | g
    · exact g
    · subst g
      grind
  have pa := pos a2 A2 A.high
  have pb := pos b2 B2 B.high
  have pc : (0 : Rat) < 251 / 100 := by decide +kernel
  have k1 := root_le A.nn c0 A.low u
  have k2 := root_le B.nn c0 B.low u
  have k3 := root_le A.nn B2 A.low B.high
  have k4 := root_le B.nn A2 B.low A.high
  have k5 := A.le
  have k6 := B.le
  generalize (251 / 100 : Rat) = c at *
  by_cases g1 : a2 ≤ b2
  · by_cases g2 : a2 ≤ c
    · exact ⟨a2, pa, g2, k5, Rat.le_refl, k4, g1⟩
    · exact ⟨c, pc, Rat.le_refl, k1, by grind, k2, by grind⟩
  · by_cases g2 : b2 ≤ c
    · exact ⟨b2, pb, g2, k3, by grind, k6, Rat.le_refl⟩
    · exact ⟨c, pc, Rat.le_refl, k1, by grind, k2, by grind⟩
theorem rt_self (A : RtP a1 a2) : ∃ r : Rat, 0 < r ∧ r ≤ 251 / 100 ∧ a1 ≤ r ∧ r ≤ a2 := by
  obtain ⟨r, h0, h1, h2, h3, -⟩ := rt_common A A
  exact ⟨r, h0, h1, h2, h3⟩
theorem third_le {r : Rat} (h0 : 0 < r) (h1 : r ≤ 251 / 100) : 1 / 3 ≤ 1 / r := by
  refine le_by h0 ?_
  rw [Rat.div_mul_cancel (by grind)]
  have e : (251 / 100 : Rat) * (1 / 3) ≤ 1 := by decide +kernel
  have m := Rat.mul_le_mul_of_nonneg_right h1 (show (0 : Rat) ≤ 1 / 3 by decide +kernel)
  generalize (1 / 3 : Rat) = t at *
  generalize (251 / 100 : Rat) = c at *
  grind
abbrev gG : Rat := 121694457621910022543683507716096
theorem grow_num {d r : Rat} (hd : 0 ≤ d) (h0 : 0 < r) (h1 : r ≤ 251 / 100) : d ≤ d / 8 * (1 / Ex.t2 102) * (1 / r) * gG := by
  have e : 1 / 8 * (1 / Ex.t2 102) * (1 / 3) * gG = 1 := by decide +kernel
  have e8 : d / 8 = d * (1 / 8) := by rw [Rat.div_def, Rat.div_def, Rat.one_mul]
  have t := third_le h0 h1
  have p : 0 ≤ d * (1 / 8) * (1 / Ex.t2 102) := Rat.mul_nonneg (Rat.mul_nonneg hd (by decide +kernel)) (by decide +kernel)
  have m := Rat.mul_le_mul_of_nonneg_left t p
  have m2 := Rat.mul_le_mul_of_nonneg_right m (show (0 : Rat) ≤ gG by decide +kernel)
  rw [e8]
  have e2 : d * (1 / 8) * (1 / Ex.t2 102) * (1 / 3) * gG = d * (1 / 8 * (1 / Ex.t2 102) * (1 / 3) * gG) := by
    generalize (1 / 8 : Rat) = q8
    generalize (1 / 3 : Rat) = q3
    generalize 1 / Ex.t2 102 = qt
    generalize gG = qg
    grind
  rw [e2, e, Rat.mul_one] at m2
  exact m2
theorem bell_grows (hx : 0 < x) (hxy : x ≤ y) (hy : y ≤ 8) (A : LoP x l) (B : HiP y h) : y - x ≤ (h - l) * gG := by
  obtain ⟨a1, a2, RA, A⟩ := A
  obtain ⟨b1, b2, RB, B⟩ := B
  obtain ⟨r, h0, h1, k1, k2, k3, k4⟩ := rt_common RA RB
  obtain ⟨s1, A⟩ := A r k1 k2
  obtain ⟨s2, B⟩ := B r k3 k4
  have g := arV_grows hx hxy hy h0 A B
  have n := grow_num (show 0 ≤ y - x by grind) h0 h1
  have m := Rat.mul_le_mul_of_nonneg_right (show (y - x) / 8 * (1 / Ex.t2 102) * (1 / r) ≤ h - l by grind) (show (0 : Rat) ≤ gG by decide +kernel)
  exact Rat.le_trans n m
theorem arV_n0 {z r : Rat} {L : Nat} (h : 0 < z) (hr : 0 ≤ r) (hL : 1 ≤ L) : 0 ≤ arV z (z * z) (z * z / 2) r L := by
  have zz := Rat.mul_pos h h
  have q : 0 < z * z / 2 := by have e := Rat.div_mul_cancel (a := z * z) (b := 2) (by decide); generalize z * z / 2 = w at *; grind
  have R0 : 0 ≤ 1 / r := by
    rw [Rat.div_def, Rat.one_mul]
    by_cases e : r = 0
    · rw [e]; decide +kernel
    · exact Rat.le_of_lt (Rat.inv_pos.2 (by grind))
  exact Rat.mul_nonneg (Rat.mul_nonneg (Rat.mul_nonneg (Rat.le_of_lt h) (sk_nn (by omega) (Rat.le_of_lt zz) L)) (ev_le1 (z := -(z * z / 2)) (by grind) hL).2) R0
theorem bell_above (hy0 : 0 < y) (hy : y ≤ 8) (B : HiP y h) : y ≤ h * (2 * gG) := by
  obtain ⟨b1, b2, RB, B⟩ := B
  obtain ⟨r, h0, h1, k3, k4⟩ := rt_self RB
  obtain ⟨s2, B⟩ := B r k3 k4
  have y2 : y / 2 + y / 2 = y := by
    have := Rat.div_mul_cancel (a := y) (b := 2) (by decide)
    grind
  generalize hx : y / 2 = x at *
  have x0 : 0 < x := by grind
  have g := arV_grows (l := 0) (s1 := 1) x0 (show x ≤ y by grind) hy h0 (fun L hL => arV_n0 x0 (Rat.le_of_lt h0) hL) B
  have n := grow_num (show 0 ≤ y - x by grind) h0 h1
  have m := Rat.mul_le_mul_of_nonneg_right (show (y - x) / 8 * (1 / Ex.t2 102) * (1 / r) ≤ h by grind) (show (0 : Rat) ≤ gG by decide +kernel)
  have k := Rat.le_trans n m
  generalize gG = G at *
  grind
theorem bell_eight (B : HiP 8 h) : 17 / 100 ≤ h := by
  obtain ⟨b1, b2, RB, B⟩ := B
  obtain ⟨r, h0, h1, k3, k4⟩ := rt_self RB
  obtain ⟨s2, B⟩ := B r k3 k4
  refine arV_rises (x := 1 / 2) (y := 8) (s1 := 2) (by decide +kernel) (by decide +kernel) (by decide +kernel) (Rat.le_of_lt h0) ?_ B
  intro L hL
  have e1 : evX (-((1 / 2 : Rat) * (1 / 2) / 2)) L = 1 / Ex.E (1 / 8) L := by
    unfold evX
    rw [show (-((1 / 2 : Rat) * (1 / 2) / 2)) = -(1 / 8) from by decide +kernel, if_pos (by decide +kernel), Rat.neg_neg]
  have s1 : (1 : Rat) ≤ sk ((1 / 2 : Rat) * (1 / 2)) 3 L := by
    have := sk_up (y := (1 / 2 : Rat) * (1 / 2)) (k0 := 3) (by omega) (by decide +kernel) (show 1 ≤ L by omega)
    exact Rat.le_trans (show (1 : Rat) ≤ 0 + 1 by decide +kernel) this
  have E1 := E_one (x := 1 / 8) (by decide +kernel) (show 1 ≤ L by omega)
  have E2 := Ex.E_tail_le (y := 1 / 8) (N := 2) (L := L) (by decide +kernel) (by decide +kernel)
  have E3 : Ex.E (1 / 8) 2 + 2 * Ex.tm (1 / 8) 2 ≤ 8 / 7 := by decide +kernel
  have E4 := Rat.le_trans E2 E3
  have v : 7 / 8 ≤ 1 / Ex.E (1 / 8) L := by
    refine le_by (show 0 < Ex.E (1 / 8) L by grind) ?_
    rw [Rat.div_mul_cancel (by grind)]
    have m := Rat.mul_le_mul_of_nonneg_left E4 (show (0 : Rat) ≤ 7 / 8 by decide +kernel)
    rw [show (7 / 8 : Rat) * (8 / 7) = 1 from by decide +kernel] at m
    exact m
  have w : 100 / 251 ≤ 1 / r := by
    refine le_by h0 ?_
    rw [Rat.div_mul_cancel (by grind)]
    have m := Rat.mul_le_mul_of_nonneg_left h1 (show (0 : Rat) ≤ 100 / 251 by decide +kernel)
    rw [show (100 / 251 : Rat) * (251 / 100) = 1 from by decide +kernel] at m
    exact m
  unfold arV
  rw [e1]
  generalize sk ((1 / 2 : Rat) * (1 / 2)) 3 L = S at *
  generalize 1 / Ex.E (1 / 8) L = V at *
  generalize 1 / r = W at *
  have a1 := Rat.mul_le_mul_of_nonneg_left s1 (show (0 : Rat) ≤ 1 / 2 by decide +kernel)
  have V0 : 0 ≤ V := Rat.le_trans (by decide +kernel) v
  have a2 : 1 / 2 * 1 * (7 / 8) ≤ 1 / 2 * S * V := Rat.le_trans (Rat.mul_le_mul_of_nonneg_left v (by decide +kernel)) (Rat.mul_le_mul_of_nonneg_right a1 V0)
  have a3 : (1 / 2 * 1 * (7 / 8)) * (100 / 251) ≤ 1 / 2 * S * V * W := Rat.le_trans (Rat.mul_le_mul_of_nonneg_left w (by decide +kernel)) (Rat.mul_le_mul_of_nonneg_right a2 (Rat.le_trans (by decide +kernel) w))
  exact Rat.le_trans (by decide +kernel) a3
def LoN (z l : Rat) : Prop := (z = 0 ∧ l = 1 / 2) ∨ (0 < z ∧ LoP z (l - 1 / 2)) ∨ (z < 0 ∧ HiP (-z) (1 / 2 - l))
def HiN (z h : Rat) : Prop := (z = 0 ∧ h = 1 / 2) ∨ (0 < z ∧ HiP z (h - 1 / 2)) ∨ (z < 0 ∧ LoP (-z) (1 / 2 - h))
theorem share_grows (hx : -8 ≤ x) (hxy : x ≤ y) (hy : y ≤ 8) (A : LoN x l) (B : HiN y h) : y - x ≤ (h - l) * (2 * gG) := by
  have G0 : (0 : Rat) ≤ gG := by decide +kernel
  generalize hh : (1 / 2 : Rat) = f at *
  unfold LoN at A
  unfold HiN at B
  rw [hh] at A B
  have n1 : ∀ {x y l h : Rat}, 0 < x → x ≤ y → y ≤ 8 → LoP x l → HiP y h → y - x ≤ (h - l) * gG := fun h1 h2 h3 A B => bell_grows h1 h2 h3 A B
  have n2 : ∀ {y h : Rat}, 0 < y → y ≤ 8 → HiP y h → y ≤ h * (2 * gG) := fun h1 h2 A => bell_above h1 h2 A
  generalize gG = G at *
  rcases A with ⟨e, A⟩ | ⟨e, A⟩ | ⟨e, A⟩ <;> rcases B with ⟨e', B⟩ | ⟨e', B⟩ | ⟨e', B⟩
  · grind
  · have := n2 e' hy B
    grind
  · grind
  · grind
  · have g := n1 e hxy hy A B
    have : 0 ≤ (h - l) * G := by grind
    grind
  · grind
  · have := n2 (show 0 < -x by grind) (by grind) A
    grind
  · have a := n2 (show 0 < -x by grind) (by grind) A
    have b := n2 e' hy B
    grind
  · have g := n1 (show 0 < -y by grind) (show -y ≤ -x by grind) (by grind) B A
    have : 0 ≤ (h - l) * G := by grind
    grind
theorem share_low (B : HiN 8 h) (w : (h - l) * 4294967296 ≤ 1) : 2 / 3 < l := by
  rcases B with ⟨e, -⟩ | ⟨-, B⟩ | ⟨e, -⟩
  · exact absurd e (by decide)
  · have k := bell_eight B
    have e : (2 / 3 : Rat) * 4294967296 < (17 / 100 + 1 / 2) * 4294967296 - 1 := by decide +kernel
    generalize (2 / 3 : Rat) = a at *
    generalize (17 / 100 : Rat) = b at *
    generalize (1 / 2 : Rat) = c at *
    grind
  · exact absurd e (by decide)
theorem share_high (A : LoN (-8) l) (w : (h - l) * 4294967296 ≤ 1) : h < 1 / 2 := by
  rcases A with ⟨e, -⟩ | ⟨e, -⟩ | ⟨-, A⟩
  · exact absurd e (by decide)
  · exact absurd e (by decide)
  · rw [show -(-8 : Rat) = 8 by decide] at A
    have k := bell_eight A
    have e : 1 < (17 / 100 : Rat) * 4294967296 := by decide +kernel
    generalize (17 / 100 : Rat) = b at *
    generalize (1 / 2 : Rat) = c at *
    grind
end
end Go.Proofs.YtecjelnpmcnbaaaGreat
namespace Go.Proofs.YtecjelnpmcnbaaaGreat
open Go.Ev
abbrev distV (k n m : Int) (sa : Bool) (na da : List Nat) (sb : Bool) (nb db : List Nat) : SV :=
  .agg [.int .i64 k, .int .i64 n, .int .i64 m, .bool sa, natV na, natV da, .bool sb, natV nb, natV db]
def inD (k n m : Int) (a b : Rat) : Bool :=
  if k = 1 then decide (0 < b) else if k = 2 then decide (0 < a) else if k = 3 then decide (1 ≤ n) && decide (0 < a)
  else if k = 4 then decide (1 ≤ n) else if k = 5 then decide (1 ≤ n) else if k = 6 then decide (1 ≤ n) && decide (1 ≤ m) else if k = 7 then decide (1 ≤ n) && decide (1 ≤ m)
  else if k = 8 then decide (0 ≤ n) && (decide (0 ≤ a) && decide (a ≤ 1)) else if k = 9 then decide (0 ≤ a) else false
def gtD (k n m : Int) (a : Rat) : Bool :=
  if k = 3 then decide (256 < n) else if k = 4 then decide (256 < n) else if k = 5 then decide (256 < n) else if k = 6 then decide (256 < n) || decide (256 < m) else if k = 7 then decide (256 < n) || decide (256 < m)
  else if k = 8 then decide (256 < n) else if k = 9 then decide (64 < a) else false
def chkD (k n m : Int) (a b : Rat) : Int := if inD k n m a b then (if gtD k n m a then 7 else 0) else 4
section
variable {k n m : Int} {sa sb : Bool} {na da nb db : List Nat} {a b : Rat} {L : Nat}
theorem dist_above {v : SV} {q : Rat} {L : Nat} (hv : RatA v q L) (hL : 1 ≤ L) (h : L ≤ 1048576) (n : Int) (hn : -9223372036854775808 ≤ n ∧ n < 9223372036854775808) : Go.Ev.Fn CX 101 [v, .int .i64 n] (.bool (decide ((n : Rat) < q))) := by
  have hI := rat_Int n hn
  have hC := rat_Cmp hv (RatA_rv (int_szR (n := n) (by omega))) hL (by omega) (by omega)
  obtain ⟨s, x, d, rfl, -⟩ := hv
  refine Go.Ev.Fn.intro (fn := Tryz.f101) (body := (Tryz.f101).body.get!) (by kernel_rfl) (by kernel_rfl) (by kernel_rfl) (fun _ => rfl) (Nat.le_of_ble_eq_true (by kernel_rfl)) ?_; unfold Tryz.f101; simp only [Option.get!_some]
  repeat (first | (simp only [go_sem, cmpR_gt]) | (simp (disch := (first | omega | (simp only [AL, List.length_map]; omega))) only [AR, AL, ifT, ifF, take_all, List.length_cons, List.length_nil, Int.reduceToNat, Int.reducePow, Nat.reducePow, cmpR_gt]) | (refine wk_intro (by kernel_rfl) ?_) | (refine vp_draw (id := 1) (l := []) (by kernel_rfl) ?_) | (refine vf_of (by first | exact hI | exact hC) ?_))
theorem dist_below {v : SV} {q : Rat} {L : Nat} (hv : RatA v q L) (hL : 1 ≤ L) (h : L ≤ 1048576) (n : Int) (hn : -9223372036854775808 ≤ n ∧ n < 9223372036854775808) : Go.Ev.Fn CX 102 [v, .int .i64 n] (.bool (decide (q < (n : Rat)))) := by
  have hI := rat_Int n hn
  have hC := rat_Cmp hv (RatA_rv (int_szR (n := n) (by omega))) hL (by omega) (by omega)
  obtain ⟨s, x, d, rfl, -⟩ := hv
  refine Go.Ev.Fn.intro (fn := Tryz.f102) (body := (Tryz.f102).body.get!) (by kernel_rfl) (by kernel_rfl) (by kernel_rfl) (fun _ => rfl) (Nat.le_of_ble_eq_true (by kernel_rfl)) ?_; unfold Tryz.f102; simp only [Option.get!_some]
  repeat (first | (simp only [go_sem, cmpR_lt]) | (simp (disch := (first | omega | (simp only [AL, List.length_map]; omega))) only [AR, AL, ifT, ifF, take_all, List.length_cons, List.length_nil, Int.reduceToNat, Int.reducePow, Nat.reducePow, cmpR_lt]) | (refine wk_intro (by kernel_rfl) ?_) | (refine vp_draw (id := 1) (l := []) (by kernel_rfl) ?_) | (refine vf_of (by first | exact hI | exact hC) ?_))
theorem kinds (k : Int) : k = 1 ∨ k = 2 ∨ k = 3 ∨ k = 4 ∨ k = 5 ∨ k = 6 ∨ k = 7 ∨ k = 8 ∨ k = 9 ∨ (k ≠ 1 ∧ k ≠ 2 ∧ k ≠ 3 ∧ k ≠ 4 ∧ k ≠ 5 ∧ k ≠ 6 ∧ k ≠ 7 ∧ k ≠ 8 ∧ k ≠ 9) := by omega
theorem not_lt_dec {q r : Rat} : (!decide (q < r)) = decide (r ≤ q) := by
  by_cases h : q < r
  · rw [decide_eq_true h, decide_eq_false (show ¬ r ≤ q by grind)]; rfl
  · rw [decide_eq_false h, decide_eq_true (show r ≤ q by grind)]; rfl
theorem dist_isDomain (hA : RatA (ratV sa na da) a L) (hB : RatA (ratV sb nb db) b L) (hL : 1 ≤ L) (h : L ≤ 1048576) : Go.Ev.Fn CX 54 [distV k n m sa na da sb nb db] (.bool (inD k n m a b)) := by
  have a0 := dist_above hA hL h 0 (by omega)
  have a1 := dist_above hA hL h 1 (by omega)
  have b0 := dist_above hB hL h 0 (by omega)
  have l0 := dist_below hA hL h 0 (by omega)
  rw [show ((0 : Int) : Rat) = 0 from rfl] at a0 b0 l0
  rw [show ((1 : Int) : Rat) = 1 from rfl] at a1
  refine Go.Ev.Fn.intro (fn := Tryz.f54) (body := (Tryz.f54).body.get!) (by kernel_rfl) (by kernel_rfl) (by kernel_rfl) (fun _ => rfl) (Nat.le_of_ble_eq_true (by kernel_rfl)) ?_; unfold Tryz.f54; simp only [Option.get!_some]
  rcases kinds k with rfl | rfl | rfl | rfl | rfl | rfl | rfl | rfl | rfl | ⟨k1, k2, k3, k4, k5, k6, k7, k8, k9⟩
  · repeat (first | (simp only [go_sem]) | (simp (disch := (first | omega | (simp only [AL, List.length_map]; omega))) only [AR, AL, ifT, ifF, take_all, List.length_cons, List.length_nil, Int.reduceToNat, Int.reducePow, Nat.reducePow]) | (refine wk_intro (by kernel_rfl) ?_))
    refine vf_of (b0) ?_; repeat (first | (simp only [go_sem]) | (simp (disch := (first | omega | (simp only [AL, List.length_map]; omega))) only [AR, AL, ifT, ifF, take_all, List.length_cons, List.length_nil, Int.reduceToNat, Int.reducePow, Nat.reducePow]) | (refine wk_intro (by kernel_rfl) ?_))
    rfl
  · repeat (first | (simp only [go_sem]) | (simp (disch := (first | omega | (simp only [AL, List.length_map]; omega))) only [AR, AL, ifT, ifF, take_all, List.length_cons, List.length_nil, Int.reduceToNat, Int.reducePow, Nat.reducePow]) | (refine wk_intro (by kernel_rfl) ?_))
    refine vf_of (a0) ?_; repeat (first | (simp only [go_sem]) | (simp (disch := (first | omega | (simp only [AL, List.length_map]; omega))) only [AR, AL, ifT, ifF, take_all, List.length_cons, List.length_nil, Int.reduceToNat, Int.reducePow, Nat.reducePow]) | (refine wk_intro (by kernel_rfl) ?_))
    rfl
  · rw [show inD 3 n m a b = (decide (1 ≤ n) && decide (0 < a)) from rfl]
    by_cases hn : 1 ≤ n
    · rw [decide_eq_true hn, Bool.true_and]
      repeat (first | (simp only [go_sem]) | (simp (disch := (first | omega | (simp only [AL, List.length_map]; omega))) only [AR, AL, ifT, ifF, take_all, List.length_cons, List.length_nil, Int.reduceToNat, Int.reducePow, Nat.reducePow]) | (refine wk_intro (by kernel_rfl) ?_) | (refine vf_of (by first | exact a0) ?_))
    · rw [decide_eq_false hn, Bool.false_and]
      repeat (first | (simp only [go_sem]) | (simp (disch := (first | omega | (simp only [AL, List.length_map]; omega))) only [AR, AL, ifT, ifF, take_all, List.length_cons, List.length_nil, Int.reduceToNat, Int.reducePow, Nat.reducePow]) | (refine wk_intro (by kernel_rfl) ?_))
  · rw [show inD 4 n m a b = decide (1 ≤ n) from rfl]
    repeat (first | (simp only [go_sem]) | (simp (disch := (first | omega | (simp only [AL, List.length_map]; omega))) only [AR, AL, ifT, ifF, take_all, List.length_cons, List.length_nil, Int.reduceToNat, Int.reducePow, Nat.reducePow]) | (refine wk_intro (by kernel_rfl) ?_))
  · rw [show inD 5 n m a b = decide (1 ≤ n) from rfl]
    repeat (first | (simp only [go_sem]) | (simp (disch := (first | omega | (simp only [AL, List.length_map]; omega))) only [AR, AL, ifT, ifF, take_all, List.length_cons, List.length_nil, Int.reduceToNat, Int.reducePow, Nat.reducePow]) | (refine wk_intro (by kernel_rfl) ?_))
  · rw [show inD 6 n m a b = (decide (1 ≤ n) && decide (1 ≤ m)) from rfl]
    by_cases hn : 1 ≤ n
    · rw [decide_eq_true hn, Bool.true_and]
      repeat (first | (simp only [go_sem]) | (simp (disch := (first | omega | (simp only [AL, List.length_map]; omega))) only [AR, AL, ifT, ifF, take_all, List.length_cons, List.length_nil, Int.reduceToNat, Int.reducePow, Nat.reducePow]) | (refine wk_intro (by kernel_rfl) ?_))
    · rw [decide_eq_false hn, Bool.false_and]
      repeat (first | (simp only [go_sem]) | (simp (disch := (first | omega | (simp only [AL, List.length_map]; omega))) only [AR, AL, ifT, ifF, take_all, List.length_cons, List.length_nil, Int.reduceToNat, Int.reducePow, Nat.reducePow]) | (refine wk_intro (by kernel_rfl) ?_))
  · rw [show inD 7 n m a b = (decide (1 ≤ n) && decide (1 ≤ m)) from rfl]
    by_cases hn : 1 ≤ n
    · rw [decide_eq_true hn, Bool.true_and]
      repeat (first | (simp only [go_sem]) | (simp (disch := (first | omega | (simp only [AL, List.length_map]; omega))) only [AR, AL, ifT, ifF, take_all, List.length_cons, List.length_nil, Int.reduceToNat, Int.reducePow, Nat.reducePow]) | (refine wk_intro (by kernel_rfl) ?_))
    · rw [decide_eq_false hn, Bool.false_and]
      repeat (first | (simp only [go_sem]) | (simp (disch := (first | omega | (simp only [AL, List.length_map]; omega))) only [AR, AL, ifT, ifF, take_all, List.length_cons, List.length_nil, Int.reduceToNat, Int.reducePow, Nat.reducePow]) | (refine wk_intro (by kernel_rfl) ?_))
  · rw [show inD 8 n m a b = (decide (0 ≤ n) && (decide (0 ≤ a) && decide (a ≤ 1))) from rfl]
    by_cases hn : 0 ≤ n
    · rw [decide_eq_true hn, Bool.true_and]
      by_cases ha : a < 0
      · rw [decide_eq_true ha] at l0
        rw [decide_eq_false (show ¬ 0 ≤ a by grind), Bool.false_and]
        repeat (first | (simp only [go_sem, Bool.not_true]) | (simp (disch := (first | omega | (simp only [AL, List.length_map]; omega))) only [AR, AL, ifT, ifF, take_all, List.length_cons, List.length_nil, Int.reduceToNat, Int.reducePow, Nat.reducePow, Bool.not_true]) | (refine wk_intro (by kernel_rfl) ?_) | (refine vf_of (by first | exact l0) ?_))
      · rw [decide_eq_false ha] at l0
        rw [decide_eq_true (show 0 ≤ a by grind), Bool.true_and]
        repeat (first | (simp only [go_sem, Bool.not_false, not_lt_dec]) | (simp (disch := (first | omega | (simp only [AL, List.length_map]; omega))) only [AR, AL, ifT, ifF, take_all, List.length_cons, List.length_nil, Int.reduceToNat, Int.reducePow, Nat.reducePow, Bool.not_false, not_lt_dec]) | (refine wk_intro (by kernel_rfl) ?_) | (refine vf_of (by first | exact l0 | exact a1) ?_))
    · rw [decide_eq_false hn, Bool.false_and]
      repeat (first | (simp only [go_sem]) | (simp (disch := (first | omega | (simp only [AL, List.length_map]; omega))) only [AR, AL, ifT, ifF, take_all, List.length_cons, List.length_nil, Int.reduceToNat, Int.reducePow, Nat.reducePow]) | (refine wk_intro (by kernel_rfl) ?_))
  · rw [show inD 9 n m a b = decide (0 ≤ a) from rfl]
    repeat (first | (simp only [go_sem, not_lt_dec]) | (simp (disch := (first | omega | (simp only [AL, List.length_map]; omega))) only [AR, AL, ifT, ifF, take_all, List.length_cons, List.length_nil, Int.reduceToNat, Int.reducePow, Nat.reducePow, not_lt_dec]) | (refine wk_intro (by kernel_rfl) ?_) | (refine vf_of (by first | exact l0) ?_))
  · have e : inD k n m a b = false := by
      unfold inD
      rw [if_neg k1, if_neg k2, if_neg k3, if_neg k4, if_neg k5, if_neg k6, if_neg k7, if_neg k8, if_neg k9]
    rw [e]
    repeat (first | (simp only [go_sem]) | (simp (disch := (first | omega | (simp only [AL, List.length_map]; omega))) only [AR, AL, ifT, ifF, take_all, List.length_cons, List.length_nil, Int.reduceToNat, Int.reducePow, Nat.reducePow]) | (refine wk_intro (by kernel_rfl) ?_))
theorem max_gt (n m : Int) : decide ((if m > n then m else n) > 256) = (decide (256 < n) || decide (256 < m)) := by
  rw [← Bool.decide_or]
  congr 1
  split <;> (apply propext; omega)
theorem dist_isGreat (hA : RatA (ratV sa na da) a L) (hL : 1 ≤ L) (h : L ≤ 1048576) : Go.Ev.Fn CX 55 [distV k n m sa na da sb nb db] (.bool (gtD k n m a)) := by
  have a64 := dist_above hA hL h 64 (by omega)
  rw [show ((64 : Int) : Rat) = 64 from rfl] at a64
  refine Go.Ev.Fn.intro (fn := Tryz.f55) (body := (Tryz.f55).body.get!) (by kernel_rfl) (by kernel_rfl) (by kernel_rfl) (fun _ => rfl) (Nat.le_of_ble_eq_true (by kernel_rfl)) ?_; unfold Tryz.f55; simp only [Option.get!_some]
  rcases kinds k with rfl | rfl | rfl | rfl | rfl | rfl | rfl | rfl | rfl | ⟨k1, k2, k3, k4, k5, k6, k7, k8, k9⟩
  · repeat (first | (simp only [go_sem]) | (simp (disch := (first | omega | (simp only [AL, List.length_map]; omega))) only [AR, AL, ifT, ifF, take_all, List.length_cons, List.length_nil, Int.reduceToNat, Int.reducePow, Nat.reducePow]) | (refine wk_intro (by kernel_rfl) ?_))
    rfl
  · repeat (first | (simp only [go_sem]) | (simp (disch := (first | omega | (simp only [AL, List.length_map]; omega))) only [AR, AL, ifT, ifF, take_all, List.length_cons, List.length_nil, Int.reduceToNat, Int.reducePow, Nat.reducePow]) | (refine wk_intro (by kernel_rfl) ?_))
    rfl
  · repeat (first | (simp only [go_sem]) | (simp (disch := (first | omega | (simp only [AL, List.length_map]; omega))) only [AR, AL, ifT, ifF, take_all, List.length_cons, List.length_nil, Int.reduceToNat, Int.reducePow, Nat.reducePow]) | (refine wk_intro (by kernel_rfl) ?_))
    rfl
  · repeat (first | (simp only [go_sem]) | (simp (disch := (first | omega | (simp only [AL, List.length_map]; omega))) only [AR, AL, ifT, ifF, take_all, List.length_cons, List.length_nil, Int.reduceToNat, Int.reducePow, Nat.reducePow]) | (refine wk_intro (by kernel_rfl) ?_))
    rfl
  · repeat (first | (simp only [go_sem]) | (simp (disch := (first | omega | (simp only [AL, List.length_map]; omega))) only [AR, AL, ifT, ifF, take_all, List.length_cons, List.length_nil, Int.reduceToNat, Int.reducePow, Nat.reducePow]) | (refine wk_intro (by kernel_rfl) ?_))
    rfl
  · repeat (first | (simp only [go_sem, max_gt]) | (simp (disch := (first | omega | (simp only [AL, List.length_map]; omega))) only [AR, AL, ifT, ifF, take_all, List.length_cons, List.length_nil, Int.reduceToNat, Int.reducePow, Nat.reducePow, max_gt]) | (refine wk_intro (by kernel_rfl) ?_))
    rfl
  · repeat (first | (simp only [go_sem, max_gt]) | (simp (disch := (first | omega | (simp only [AL, List.length_map]; omega))) only [AR, AL, ifT, ifF, take_all, List.length_cons, List.length_nil, Int.reduceToNat, Int.reducePow, Nat.reducePow, max_gt]) | (refine wk_intro (by kernel_rfl) ?_))
    rfl
  · repeat (first | (simp only [go_sem]) | (simp (disch := (first | omega | (simp only [AL, List.length_map]; omega))) only [AR, AL, ifT, ifF, take_all, List.length_cons, List.length_nil, Int.reduceToNat, Int.reducePow, Nat.reducePow]) | (refine wk_intro (by kernel_rfl) ?_))
    rfl
  · repeat (first | (simp only [go_sem]) | (simp (disch := (first | omega | (simp only [AL, List.length_map]; omega))) only [AR, AL, ifT, ifF, take_all, List.length_cons, List.length_nil, Int.reduceToNat, Int.reducePow, Nat.reducePow]) | (refine wk_intro (by kernel_rfl) ?_))
    refine vf_of (a64) ?_; repeat (first | (simp only [go_sem]) | (simp (disch := (first | omega | (simp only [AL, List.length_map]; omega))) only [AR, AL, ifT, ifF, take_all, List.length_cons, List.length_nil, Int.reduceToNat, Int.reducePow, Nat.reducePow]) | (refine wk_intro (by kernel_rfl) ?_))
    rfl
  · have e : gtD k n m a = false := by
      unfold gtD
      rw [if_neg k3, if_neg k4, if_neg k5, if_neg k6, if_neg k7, if_neg k8, if_neg k9]
    rw [e]
    repeat (first | (simp only [go_sem]) | (simp (disch := (first | omega | (simp only [AL, List.length_map]; omega))) only [AR, AL, ifT, ifF, take_all, List.length_cons, List.length_nil, Int.reduceToNat, Int.reducePow, Nat.reducePow]) | (refine wk_intro (by kernel_rfl) ?_))
theorem dist_Check (hA : RatA (ratV sa na da) a L) (hB : RatA (ratV sb nb db) b L) (hL : 1 ≤ L) (h : L ≤ 1048576) : Go.Ev.Fn CX 20 [distV k n m sa na da sb nb db] (.int .i64 (chkD k n m a b)) := by
  have h1 := dist_isDomain (k := k) (n := n) (m := m) hA hB hL h
  have h2 := dist_isGreat (k := k) (n := n) (m := m) (sb := sb) (nb := nb) (db := db) hA hL h
  unfold chkD
  refine Go.Ev.Fn.intro (fn := Tryz.f20) (body := (Tryz.f20).body.get!) (by kernel_rfl) (by kernel_rfl) (by kernel_rfl) (fun _ => rfl) (Nat.le_of_ble_eq_true (by kernel_rfl)) ?_; unfold Tryz.f20; simp only [Option.get!_some]
  generalize inD k n m a b = i at *
  generalize gtD k n m a = g at *
  cases i
  · repeat (first | (simp only [go_sem]) | (simp (disch := (first | omega | (simp only [AL, List.length_map]; omega))) only [AR, AL, ifT, ifF, take_all, List.length_cons, List.length_nil, Int.reduceToNat, Int.reducePow, Nat.reducePow]) | (refine wk_intro (by kernel_rfl) ?_))
    refine vf_of (h1) ?_; repeat (first | (simp only [go_sem, Bool.not_false]) | (simp (disch := (first | omega | (simp only [AL, List.length_map]; omega))) only [AR, AL, ifT, ifF, take_all, List.length_cons, List.length_nil, Int.reduceToNat, Int.reducePow, Nat.reducePow, Bool.not_false]) | (refine wk_intro (by kernel_rfl) ?_))
  · cases g
    · repeat (first | (simp only [go_sem]) | (simp (disch := (first | omega | (simp only [AL, List.length_map]; omega))) only [AR, AL, ifT, ifF, take_all, List.length_cons, List.length_nil, Int.reduceToNat, Int.reducePow, Nat.reducePow]) | (refine wk_intro (by kernel_rfl) ?_))
      repeat (first | (simp only [go_sem, Bool.not_true]) | (simp (disch := (first | omega | (simp only [AL, List.length_map]; omega))) only [AR, AL, ifT, ifF, take_all, List.length_cons, List.length_nil, Int.reduceToNat, Int.reducePow, Nat.reducePow, Bool.not_true]) | (refine wk_intro (by kernel_rfl) ?_) | (refine vf_of (by first | exact h1 | exact h2) ?_))
    · repeat (first | (simp only [go_sem]) | (simp (disch := (first | omega | (simp only [AL, List.length_map]; omega))) only [AR, AL, ifT, ifF, take_all, List.length_cons, List.length_nil, Int.reduceToNat, Int.reducePow, Nat.reducePow]) | (refine wk_intro (by kernel_rfl) ?_))
      repeat (first | (simp only [go_sem, Bool.not_true]) | (simp (disch := (first | omega | (simp only [AL, List.length_map]; omega))) only [AR, AL, ifT, ifF, take_all, List.length_cons, List.length_nil, Int.reduceToNat, Int.reducePow, Nat.reducePow, Bool.not_true]) | (refine wk_intro (by kernel_rfl) ?_) | (refine vf_of (by first | exact h1 | exact h2) ?_))
end
end Go.Proofs.YtecjelnpmcnbaaaGreat
namespace Go.Proofs.YtecjelnpmcnbaaaGreat
open Go.Ev
section
variable {k n m : Int} {sa sb : Bool} {na da nb db : List Nat} {a b : Rat} {L : Nat}
theorem dist_over {v w : SV} {q r : Rat} {L M : Nat} (hv : RatA v q L) (hw : RatA w r M) (hL : 1 ≤ L) (hM : 1 ≤ M) (h : L + M ≤ 268435456) : Go.Ev.Fn CX 150 [v, w] (rv (q / r)) := by
  have hd := rat_Div hv hw hL hM h
  obtain ⟨s, x, d, rfl, -⟩ := hv
  obtain ⟨s', x', d', rfl, -⟩ := hw
  refine Go.Ev.Fn.intro (fn := Tryz.f150) (body := (Tryz.f150).body.get!) (by kernel_rfl) (by kernel_rfl) (by kernel_rfl) (fun _ => rfl) (Nat.le_of_ble_eq_true (by kernel_rfl)) ?_; unfold Tryz.f150; simp only [Option.get!_some]
  repeat (first | (simp only [go_sem]) | (simp (disch := (first | omega | (simp only [AL, List.length_map]; omega))) only [AR, AL, ifT, ifF, take_all, List.length_cons, List.length_nil, Int.reduceToNat, Int.reducePow, Nat.reducePow]) | (refine wk_intro (by kernel_rfl) ?_) | (refine vf_of (by first | exact hd) ?_))
theorem dist_part (n d : Int) (hn : -9223372036854775808 ≤ n ∧ n < 9223372036854775808) (hd : -9223372036854775808 ≤ d ∧ d < 9223372036854775808) : Go.Ev.Fn CX 192 [.int .i64 n, .int .i64 d] (rv ((n : Rat) / (d : Rat))) := by
  have h1 := rat_Int n hn
  have h2 := rat_Int d hd
  have ho := dist_over (RatA_rv (int_szR (n := n) (by omega))) (RatA_rv (int_szR (n := d) (by omega))) (by omega) (by omega) (by omega)
  refine Go.Ev.Fn.intro (fn := Tryz.f192) (body := (Tryz.f192).body.get!) (by kernel_rfl) (by kernel_rfl) (by kernel_rfl) (fun _ => rfl) (Nat.le_of_ble_eq_true (by kernel_rfl)) ?_; unfold Tryz.f192; simp only [Option.get!_some]
  repeat (first | (simp only [go_sem]) | (simp (disch := (first | omega | (simp only [AL, List.length_map]; omega))) only [AR, AL, ifT, ifF, take_all, List.length_cons, List.length_nil, Int.reduceToNat, Int.reducePow, Nat.reducePow]) | (refine wk_intro (by kernel_rfl) ?_) | (refine vf_of (by first | exact h1 | exact h2 | exact ho) ?_))
end
end Go.Proofs.YtecjelnpmcnbaaaGreat
namespace Go.Proofs.YtecjelnpmcnbaaaGreat
open Go.Ev
section
variable {v : SV} {x l h : Rat} {L P : Nat} {p : Int} {ok : Bool}
theorem chance_normal {n m : Int} {sa sb : Bool} {na da nb db : List Nat} {a b : Rat} {M : Nat} (hA : RatA (ratV sa na da) a M) (hB : RatA (ratV sb nb db) b M) (hM : 1 ≤ M) (hM2 : M ≤ 1000) (hx : RatA v x L) (hL1 : 1 ≤ L) (hL : L ≤ 1000)
    (f : Go.Ev.Fn CX 149 [rv ((x - a) / b), .int .i64 p] (.tup [ballR l h, .bool ok])) :
    Go.Ev.Fn CX 109 [distV 1 n m sa na da sb nb db, v, .int .i64 p] (.tup [ballR l h, .bool ok]) := by
  have zx := szR_of hx hL1
  have za := szR_of hA hM
  have sb := rat_Sub hx hA hL1 hM (by omega)
  have ov := dist_over (RatA_rv (szR_sub zx za hL1)) hB (by omega) hM (by omega)
  clear hA hB zx za
  obtain ⟨s, nn, dd, rfl, -⟩ := hx
  generalize (x - a) / b = y at *
  generalize x - a = y2 at *
  refine Go.Ev.Fn.intro (fn := Tryz.f109) (body := (Tryz.f109).body.get!) (by kernel_rfl) (by kernel_rfl) (by kernel_rfl) (fun _ => rfl) (Nat.le_of_ble_eq_true (by kernel_rfl)) ?_; unfold Tryz.f109; simp only [Option.get!_some]
  repeat (first | (simp only [go_sem]) | (simp (disch := (first | omega | (simp only [AL, List.length_map]; omega))) only [AR, AL, ifT, ifF, take_all, List.length_cons, List.length_nil, Int.reduceToNat, Int.reducePow, Nat.reducePow]) | (refine wk_intro (by kernel_rfl) ?_) | (refine vp_draw (id := 3) (l := []) (by kernel_rfl) ?_) | (refine vp_draw (id := 11) (l := []) (by kernel_rfl) ?_) | (refine vp_draw (id := 13) (l := []) (by kernel_rfl) ?_) | (refine vp_draw (id := 15) (l := []) (by kernel_rfl) ?_) | (refine vp_draw (id := 17) (l := []) (by kernel_rfl) ?_) | (refine vp_draw (id := 18) (l := []) (by kernel_rfl) ?_) | (refine vp_draw (id := 24) (l := []) (by kernel_rfl) ?_) | (refine vp_draw (id := 26) (l := []) (by kernel_rfl) ?_) | (refine vf_of (by first | exact sb | exact ov | exact f) ?_))
end
theorem chk_normal {a b : Rat} (h : 0 < b) : chkD 1 0 0 a b = 0 := by
  unfold chkD
  rw [show inD 1 0 0 a b = decide (0 < b) from rfl, show gtD 1 0 0 a = false from rfl, decide_eq_true h]
  rfl
end Go.Proofs.YtecjelnpmcnbaaaGreat
namespace Go.Proofs.YtecjelnpmcnbaaaGreat
open Go.Ev
section
variable {x : Rat} {a b p : Int} {s : Bool} {n d : List Nat}
end
end Go.Proofs.YtecjelnpmcnbaaaGreat
namespace Go.Proofs.YtecjelnpmcnbaaaGreat
open Go.Ev
theorem told_le {A B p : Nat} (h : A ≤ B) : toldLo A p ≤ toldHi B p := by
  unfold toldLo toldHi
  have P := p2_pos (p + 2)
  have h1 := Nat.div_le_div_right (c := 2 ^ (p + 300 - (p + 2))) h
  have e1 := mk_p2n (A / 2 ^ (p + 300 - (p + 2))) (p + 2)
  have e2 := mk_p2n (B / 2 ^ (p + 300 - (p + 2)) + 1) (p + 2)
  refine le_by P ?_
  rw [e1, e2]
  exact nat_le_rat (Nat.le_succ_of_le h1)
section
variable {x : Rat} {a b p : Nat} {s : Bool} {n d : List Nat}
end
end Go.Proofs.YtecjelnpmcnbaaaGreat
namespace Go.Proofs.YtecjelnpmcnbaaaGreat
open Go.Ev
def rtH : Nat := 3719477765947668636936709211380910309956202648775464111520847020716952850542838341847190855169739343470753519934912401374452868910734655781951726854669216251345409387637183634523568089081173655040240750070105177
def S2 : Rat := mkRat (rtH : Int) (2 ^ 700)
def hfGo (a b : Nat) : Nat → Nat → Nat → Nat → Nat → Nat × Nat × Nat
  | 0, _, n, d, s => (n, d, s)
  | f + 1, k, n, d, s => pin (n * (a + b + 2 * k)) fun n' => pin (2 * (a + 2 + 2 * k)) fun m => pin (d * m) fun d' => pin (s * m + n') fun s' => pin (k + 1) fun k' => hfGo a b f k' n' d' s'
theorem hfGo_is (a b : Nat) : ∀ (f k n d s : Nat), rR (1 / 2) a b k * (d : Rat) = (n : Rat) → sR (1 / 2) a b k * (d : Rat) = (s : Rat) → 0 < d →
    rR (1 / 2) a b (k + f) * ((hfGo a b f k n d s).2.1 : Rat) = ((hfGo a b f k n d s).1 : Rat) ∧ sR (1 / 2) a b (k + f) * ((hfGo a b f k n d s).2.1 : Rat) = ((hfGo a b f k n d s).2.2 : Rat) ∧ 0 < (hfGo a b f k n d s).2.1 := by
  intro f
  induction f with
  | zero => intro k n d s h1 h2 h3; exact ⟨h1, h2, h3⟩
  | succ f ih =>
    intro k n d s h1 h2 h3
    rw [hfGo]
    simp only [pin_eq]
    have c : ∀ u v : Nat, ((u * v : Nat) : Rat) = (u : Rat) * (v : Rat) := by intro u v; exact_mod_cast rfl
    have c2 : ∀ u v : Nat, ((u + v : Nat) : Rat) = (u : Rat) + (v : Rat) := by intro u v; exact_mod_cast rfl
    have M : (0 : Rat) < ((a + 2 + 2 * k : Nat) : Rat) := by exact_mod_cast (show 0 < a + 2 + 2 * k by omega)
    have r : rR (1 / 2) a b (k + 1) * ((d * (2 * (a + 2 + 2 * k)) : Nat) : Rat) = ((n * (a + b + 2 * k) : Nat) : Rat) := by
      have e : rR (1 / 2) a b (k + 1) = rR (1 / 2) a b k * (1 / 2) * ((a + b + 2 * k : Nat) : Rat) / ((a + 2 + 2 * k : Nat) : Rat) := rfl
      have e2 := Rat.div_mul_cancel (a := rR (1 / 2) a b k * (1 / 2) * ((a + b + 2 * k : Nat) : Rat)) (b := ((a + 2 + 2 * k : Nat) : Rat)) (by grind)
      rw [← e] at e2
      rw [c, c, c, ← h1]
      have two : ((2 : Nat) : Rat) = 2 := rfl
      have hh : (1 / 2 : Rat) * 2 = 1 := by decide +kernel
      rw [two]
      generalize ((a + 2 + 2 * k : Nat) : Rat) = m at *
      generalize ((a + b + 2 * k : Nat) : Rat) = q at *
      generalize rR (1 / 2) a b (k + 1) = z at *
      generalize (1 / 2 : Rat) = hf at *
      grind
    have sm : sR (1 / 2) a b (k + 1) * ((d * (2 * (a + 2 + 2 * k)) : Nat) : Rat) = ((s * (2 * (a + 2 + 2 * k)) + n * (a + b + 2 * k) : Nat) : Rat) := by
      have e : sR (1 / 2) a b (k + 1) = sR (1 / 2) a b k + rR (1 / 2) a b (k + 1) := rfl
      rw [e, c2, ← r, c s, ← h2, c d]
      generalize rR (1 / 2) a b (k + 1) = z at *
      generalize sR (1 / 2) a b k = y at *
      grind
    have := ih (k + 1) _ _ _ r sm (Nat.mul_pos h3 (by omega))
    rw [show k + 1 + f = k + (f + 1) by omega] at this
    exact this
def hfN (a b : Nat) : Nat × Nat × Nat :=
  pin ((beta2 a b).den * 2) fun D2 => pin ((beta2 a b).num.natAbs * a) fun N2 =>
  pin (rtH ^ (a % 2 + b % 2) * D2 * (if a % 2 * (b % 2) = 1 then 2 ^ 700 else 1)) fun u => pin (2 ^ (a / 2 + b / 2) * 2 ^ (700 * (a % 2 + b % 2)) * N2 * (if a % 2 * (b % 2) = 1 then piW else 1)) fun v =>
  match hfGo a b 120 0 1 1 1 with
  | (n, d, s) => pin (u * s) fun l => pin (u * (s + 3 * n)) fun h => pin (v * d) fun e => (l, h, e)
def hfOk (a b : Nat) : Bool := match hfN a b with
  | (l1, h1, e1) => match hfN b a with
    | (l2, h2, e2) => pin (l1 * e2 + l2 * e1) fun lo => pin (h1 * e2 + h2 * e1) fun hi => pin (e1 * e2) fun ee => Nat.ble ((2 ^ 66 - 1) * ee) (2 ^ 66 * lo) && Nat.ble (2 ^ 66 * hi) ((2 ^ 66 + 1) * ee)
theorem hf_ok1 : (List.range 20).all (fun j => hfOk 1 (1 + j)) = true := by decide +kernel
theorem hf_ok2 : (List.range 19).all (fun j => hfOk 2 (2 + j)) = true := by decide +kernel
theorem hf_ok3 : (List.range 18).all (fun j => hfOk 3 (3 + j)) = true := by decide +kernel
theorem hf_ok4 : (List.range 17).all (fun j => hfOk 4 (4 + j)) = true := by decide +kernel
theorem hf_ok5 : (List.range 16).all (fun j => hfOk 5 (5 + j)) = true := by decide +kernel
theorem hf_ok6 : (List.range 15).all (fun j => hfOk 6 (6 + j)) = true := by decide +kernel
theorem hf_ok7 : (List.range 14).all (fun j => hfOk 7 (7 + j)) = true := by decide +kernel
theorem hf_ok8 : (List.range 13).all (fun j => hfOk 8 (8 + j)) = true := by decide +kernel
theorem hf_ok9 : (List.range 12).all (fun j => hfOk 9 (9 + j)) = true := by decide +kernel
theorem hf_ok10 : (List.range 11).all (fun j => hfOk 10 (10 + j)) = true := by decide +kernel
theorem hf_ok11 : (List.range 10).all (fun j => hfOk 11 (11 + j)) = true := by decide +kernel
theorem hf_ok12 : (List.range 9).all (fun j => hfOk 12 (12 + j)) = true := by decide +kernel
theorem hf_ok13 : (List.range 8).all (fun j => hfOk 13 (13 + j)) = true := by decide +kernel
theorem hf_ok14 : (List.range 7).all (fun j => hfOk 14 (14 + j)) = true := by decide +kernel
theorem hf_ok15 : (List.range 6).all (fun j => hfOk 15 (15 + j)) = true := by decide +kernel
theorem hf_ok16 : (List.range 5).all (fun j => hfOk 16 (16 + j)) = true := by decide +kernel
theorem hf_ok17 : (List.range 4).all (fun j => hfOk 17 (17 + j)) = true := by decide +kernel
theorem hf_ok18 : (List.range 3).all (fun j => hfOk 18 (18 + j)) = true := by decide +kernel
theorem hf_ok19 : (List.range 2).all (fun j => hfOk 19 (19 + j)) = true := by decide +kernel
theorem hf_ok20 : (List.range 1).all (fun j => hfOk 20 (20 + j)) = true := by decide +kernel
theorem hf_all {a b : Nat} (h1 : 1 ≤ a) (h2 : a ≤ b) (h3 : b ≤ 20) : hfOk a b = true := by
  have g : ∀ c, (List.range (21 - c)).all (fun j => hfOk c (c + j)) = true → c ≤ b → hfOk c b = true := fun c h hc => by
    have := List.all_eq_true.1 h (b - c) (List.mem_range.2 (by omega))
    rwa [show c + (b - c) = b by omega] at this
  have hc : a = 1 ∨ a = 2 ∨ a = 3 ∨ a = 4 ∨ a = 5 ∨ a = 6 ∨ a = 7 ∨ a = 8 ∨ a = 9 ∨ a = 10 ∨ a = 11 ∨ a = 12 ∨ a = 13 ∨ a = 14 ∨ a = 15 ∨ a = 16 ∨ a = 17 ∨ a = 18 ∨ a = 19 ∨ a = 20 := by omega
  rcases hc with rfl | rfl | rfl | rfl | rfl | rfl | rfl | rfl | rfl | rfl | rfl | rfl | rfl | rfl | rfl | rfl | rfl | rfl | rfl | rfl
  · exact g 1 hf_ok1 h2
  · exact g 2 hf_ok2 h2
  · exact g 3 hf_ok3 h2
  · exact g 4 hf_ok4 h2
  · exact g 5 hf_ok5 h2
  · exact g 6 hf_ok6 h2
  · exact g 7 hf_ok7 h2
  · exact g 8 hf_ok8 h2
  · exact g 9 hf_ok9 h2
  · exact g 10 hf_ok10 h2
  · exact g 11 hf_ok11 h2
  · exact g 12 hf_ok12 h2
  · exact g 13 hf_ok13 h2
  · exact g 14 hf_ok14 h2
  · exact g 15 hf_ok15 h2
  · exact g 16 hf_ok16 h2
  · exact g 17 hf_ok17 h2
  · exact g 18 hf_ok18 h2
  · exact g 19 hf_ok19 h2
  · exact g 20 hf_ok20 h2
end Go.Proofs.YtecjelnpmcnbaaaGreat
namespace Go.Proofs.YtecjelnpmcnbaaaGreat
open Go.Ev
theorem S2_mul : S2 * p2 700 = (rtH : Rat) := mk_p2n rtH 700
theorem sq_mon {x y : Rat} (hx : 0 ≤ x) (hy : 0 ≤ y) (h : x * x ≤ y * y) : x ≤ y := by
  rcases Rat.le_total (a := x) (b := y) with g | g
  · exact g
  · by_cases e : y = x
    · rw [e]; exact Rat.le_refl
    · have h1 : y < x := by grind
      have h2 : y * y ≤ x * y := Rat.mul_le_mul_of_nonneg_right g hy
      have h3 : x * y < x * x := by
        have : 0 < x * (x - y) := Rat.mul_pos (by grind) (by grind)
        grind
      grind
theorem S2_nn : 0 ≤ S2 := le_by (p2_pos 700) (by rw [S2_mul, Rat.zero_mul]; exact nat_nonneg _)
theorem cmN (a b : Nat) : ((a * b : Nat) : Rat) = (a : Rat) * (b : Rat) := by exact_mod_cast rfl
theorem cnN (a b : Nat) : ((a + b : Nat) : Rat) = (a : Rat) + (b : Rat) := by exact_mod_cast rfl
theorem S2_abs {r P Q : Nat} {S : Rat} (hP : 0 < P) (e : S * (P : Rat) = (r : Rat)) (n1 : P * P ≤ 2 * (r * r)) (n2 : Q * (2 * (r * r)) ≤ Q * (P * P) + 2 * (P * P)) : 1 / 2 ≤ S * S ∧ (S * S - 1 / 2) * (Q : Rat) ≤ 1 := by
  have P0 : (0 : Rat) < (P : Rat) := by exact_mod_cast hP
  have PP : 0 < (P : Rat) * (P : Rat) := Rat.mul_pos P0 P0
  have m1 := nat_le_rat n1
  have m2 := nat_le_rat n2
  have d1 : ((2 * (r * r) : Nat) : Rat) = 2 * ((r : Rat) * (r : Rat)) := by exact_mod_cast rfl
  have d2 : ((2 * (P * P) : Nat) : Rat) = 2 * ((P : Rat) * (P : Rat)) := by exact_mod_cast rfl
  rw [cmN, d1, ← e] at m1
  rw [cmN, cnN, cmN Q, d1, d2, cmN P, ← e] at m2
  have q : S * (P : Rat) * (S * (P : Rat)) = S * S * ((P : Rat) * (P : Rat)) := by grind
  rw [q] at m1 m2
  clear q n1 n2 d1 d2 e hP P0
  generalize (P : Rat) * (P : Rat) = Z at *
  generalize S * S = t at *
  generalize (Q : Rat) = u at *
  have hh : (1 / 2 : Rat) * 2 = 1 := by decide +kernel
  generalize (1 / 2 : Rat) = hf at *
  have f1 : hf * Z * 2 = Z := by
    have : hf * Z * 2 = hf * 2 * Z := by grind
    rw [this, hh, Rat.one_mul]
  have f2 : (t - hf) * u * Z * 2 = u * (2 * (t * Z)) - u * (hf * Z * 2) := by grind
  refine ⟨le_by PP ?_, le_by PP ?_⟩
  · grind
  · rw [f1] at f2
    grind
theorem S2_sq : 1 / 2 ≤ S2 * S2 ∧ (S2 * S2 - 1 / 2) * p2 690 ≤ 1 := by
  obtain ⟨E, hE⟩ : ∃ E : Nat, E = 690 := ⟨_, rfl⟩
  obtain ⟨F, hF⟩ : ∃ F : Nat, F = 700 := ⟨_, rfl⟩
  have m := S2_mul
  rw [← hF] at m
  have h := S2_abs (P := 2 ^ F) (Q := 2 ^ E) (Nat.pow_pos (by omega)) m (by rw [hF]; decide +kernel) (by rw [hE, hF]; decide +kernel)
  rw [← hE]
  exact h
end Go.Proofs.YtecjelnpmcnbaaaGreat
namespace Go.Proofs.YtecjelnpmcnbaaaGreat
open Go.Ev
section
variable {v : SV} {x : Rat} {A B p : Nat}
end
end Go.Proofs.YtecjelnpmcnbaaaGreat
namespace Go.Proofs.YtecjelnpmcnbaaaGreat
open Go.Ev
def rtF (a : Nat) (s : Rat) : Rat := if a % 2 = 1 then s else 1
def fsG (a b : Nat) : Rat := (pwR (1 / 2) (a / 2) * pwR (1 / 2) (b / 2)) * (((beta2 a b).den * 2 : Nat) : Rat) / (((beta2 a b).num.natAbs * a : Nat) : Rat) * (if a % 2 * (b % 2) = 1 then 1 / PI0 else 1)
theorem fstR_is (a b : Nat) (s s' : Rat) : fstR a b (1 / 2) s s' = fsG a b * (rtF a s * rtF b s') := by
  have e : (1 : Rat) - 1 / 2 = 1 / 2 := by decide +kernel
  unfold fstR fsG rtF
  rw [e, Rat.div_def, Rat.div_def]
  generalize (if a % 2 = 1 then s else 1) = u
  generalize (if b % 2 = 1 then s' else 1) = v
  generalize (if a % 2 * (b % 2) = 1 then 1 / PI0 else 1) = z
  generalize pwR (1 / 2) (a / 2) = f
  generalize pwR (1 / 2) (b / 2) = g
  grind
theorem inv_nn {x : Rat} (h : 0 < x) : 0 ≤ x⁻¹ := by have := Rat.inv_pos.2 h; grind
theorem PI0_pos : 0 < PI0 := by
  have P := p2_pos 700
  have h := PI0_mul
  have w : (0 : Rat) < (piW : Rat) := by exact_mod_cast (show 0 < piW by decide +kernel)
  rcases Rat.le_total (a := PI0) (b := 0) with g | g
  · have := Rat.mul_le_mul_of_nonneg_right g (show 0 ≤ p2 700 by grind)
    grind
  · by_cases h0 : PI0 = 0
    · rw [h0, Rat.zero_mul] at h; grind
    · grind
theorem fsG_nn {a b : Nat} (ha : 1 ≤ a) (hb : 1 ≤ b) (ha2 : a ≤ 20) (hb2 : b ≤ 20) : 0 ≤ fsG a b := by
  have h := (bet_ok ha hb ha2 hb2).2
  have N : (0 : Rat) < (((beta2 a b).num.natAbs * a : Nat) : Rat) := by exact_mod_cast h
  unfold fsG
  rw [Rat.div_def]
  refine Rat.mul_nonneg (Rat.mul_nonneg (Rat.mul_nonneg (Rat.mul_nonneg (pwR_nn (by decide +kernel) _) (pwR_nn (by decide +kernel) _)) (nat_nonneg _)) (inv_nn N)) ?_
  split
  · have := PI0_pos
    rw [Rat.div_def, Rat.one_mul]
    exact inv_nn this
  · decide
theorem pw_half : ∀ n, pwR (1 / 2) n * ((2 ^ n : Nat) : Rat) = 1
  | 0 => by show (1 : Rat) * ((1 : Nat) : Rat) = 1; decide +kernel
  | n + 1 => by
    have ih := pw_half n
    have c : ((2 ^ (n + 1) : Nat) : Rat) = ((2 ^ n : Nat) : Rat) * 2 := by rw [Nat.pow_succ, cmN]; rfl
    show pwR (1 / 2) n * (1 / 2) * _ = 1
    rw [c]
    have hh : (1 / 2 : Rat) * 2 = 1 := by decide +kernel
    have e : pwR (1 / 2) n * (1 / 2) * (((2 ^ n : Nat) : Rat) * 2) = pwR (1 / 2) n * ((2 ^ n : Nat) : Rat) * (1 / 2 * 2) := by
      generalize (1 / 2 : Rat) = hf
      grind
    rw [e, ih, hh]; decide +kernel
theorem rtF_S2 (a : Nat) : rtF a S2 * ((2 ^ (700 * (a % 2)) : Nat) : Rat) = ((rtH ^ (a % 2) : Nat) : Rat) := by
  obtain ⟨F, hF⟩ : ∃ F : Nat, F = 700 := ⟨_, rfl⟩
  have m := S2_mul
  rw [← hF] at m ⊢
  unfold rtF
  have h : a % 2 = 0 ∨ a % 2 = 1 := by omega
  rcases h with h | h
  · rw [h, if_neg (by omega), Nat.mul_zero, Nat.pow_zero, Nat.pow_zero]; decide +kernel
  · rw [h, if_pos rfl, Nat.mul_one, Nat.pow_one]
    exact m
theorem hf_pt {a b l h e : Nat} (ha : 1 ≤ a) (hb : 1 ≤ b) (ha2 : a ≤ 20) (hb2 : b ≤ 20) (hN : hfN a b = (l, h, e)) :
    fsG a b * (rtF a S2 * rtF b S2) * sR (1 / 2) a b 120 * (e : Rat) = (l : Rat) ∧ fsG a b * (rtF a S2 * rtF b S2) * (sR (1 / 2) a b 120 + 3 * rR (1 / 2) a b 120) * (e : Rat) = (h : Rat) ∧ (0 : Rat) < (e : Rat) := by
  have hk := (bet_ok ha hb ha2 hb2).2
  have g := hfGo_is a b 120 0 1 1 1 (by show (1 : Rat) * ((1 : Nat) : Rat) = _; decide +kernel) (by show (1 : Rat) * ((1 : Nat) : Rat) = _; decide +kernel) (by omega)
  unfold hfN at hN
  simp only [pin_eq] at hN
  rw [Nat.zero_add] at g
  generalize hfGo a b 120 0 1 1 1 = G at *
  obtain ⟨n, d, s⟩ := G
  simp only [Prod.mk.injEq] at hN
  simp only at g
  obtain ⟨g1, g2, g3⟩ := g
  obtain ⟨rfl, rfl, rfl⟩ := hN
  obtain ⟨D2, hD2⟩ : ∃ D, D = (beta2 a b).den * 2 := ⟨_, rfl⟩
  obtain ⟨N2, hN2⟩ : ∃ N, N = (beta2 a b).num.natAbs * a := ⟨_, rfl⟩
  have p1 := pw_half (a / 2)
  have p3 := pw_half (b / 2)
  have r1 := rtF_S2 a
  have r2 := rtF_S2 b
  unfold fsG
  rw [← hD2, ← hN2]
  rw [← hN2] at hk
  have N : (0 : Rat) < (N2 : Rat) := by exact_mod_cast hk
  have dv : ∀ y : Rat, y / (N2 : Rat) * (N2 : Rat) = y := fun y => Rat.div_mul_cancel (by grind)
  have pq : (if a % 2 * (b % 2) = 1 then 1 / PI0 else 1) * (((if a % 2 * (b % 2) = 1 then piW else 1 : Nat)) : Rat) = ((if a % 2 * (b % 2) = 1 then 2 ^ 700 else 1 : Nat) : Rat) := by
    split
    · have P := PI0_pos
      rw [← PI0_mul, Rat.div_def, Rat.one_mul, ← Rat.mul_assoc, Rat.inv_mul_cancel _ (by grind), Rat.one_mul]
    · decide +kernel
  have n0 : 0 < (if a % 2 * (b % 2) = 1 then piW else 1) := by split <;> decide +kernel
  have cS : ((2 ^ (700 * (a % 2 + b % 2)) : Nat) : Rat) = ((2 ^ (700 * (a % 2)) : Nat) : Rat) * ((2 ^ (700 * (b % 2)) : Nat) : Rat) := by
    rw [← cmN, ← Nat.pow_add, ← Nat.mul_add]
  have cH : ((2 ^ (a / 2 + b / 2) : Nat) : Rat) = ((2 ^ (a / 2) : Nat) : Rat) * ((2 ^ (b / 2) : Nat) : Rat) := by rw [← cmN, ← Nat.pow_add]
  have cR : ((rtH ^ (a % 2 + b % 2) : Nat) : Rat) = ((rtH ^ (a % 2) : Nat) : Rat) * ((rtH ^ (b % 2) : Nat) : Rat) := by rw [← cmN, ← Nat.pow_add]
  have c3 : ((s + 3 * n : Nat) : Rat) = (s : Rat) + 3 * (n : Rat) := by exact_mod_cast rfl
  obtain ⟨q1, hq1⟩ : ∃ z : Rat, z = (if a % 2 * (b % 2) = 1 then 1 / PI0 else 1) := ⟨_, rfl⟩
  obtain ⟨q2, hq2⟩ : ∃ z : Nat, z = (if a % 2 * (b % 2) = 1 then piW else 1) := ⟨_, rfl⟩
  obtain ⟨q3, hq3⟩ : ∃ z : Nat, z = (if a % 2 * (b % 2) = 1 then 2 ^ 700 else 1) := ⟨_, rfl⟩
  rw [← hq1, ← hq2, ← hq3] at pq
  rw [← hq2] at n0
  rw [← hq1, ← hq2, ← hq3]
  clear hq1 hq2 hq3
  obtain ⟨z1, hz1⟩ : ∃ z : Nat, z = 2 ^ (700 * (a % 2)) := ⟨_, rfl⟩
  obtain ⟨z2, hz2⟩ : ∃ z : Nat, z = 2 ^ (700 * (b % 2)) := ⟨_, rfl⟩
  obtain ⟨z5, hz5⟩ : ∃ z : Nat, z = 2 ^ (700 * (a % 2 + b % 2)) := ⟨_, rfl⟩
  have n5 : 0 < z5 := by rw [hz5]; exact Nat.pow_pos (by omega)
  have n6 : 0 < 2 ^ (a / 2 + b / 2) := Nat.pow_pos (by omega)
  rw [← hz1] at r1
  rw [← hz2] at r2
  rw [← hz1, ← hz2, ← hz5] at cS
  rw [← hz5]
  clear hz1 hz2 hz5
  generalize pwR (1 / 2) (a / 2) = w1 at *
  generalize pwR (1 / 2) (b / 2) = w2 at *
  generalize rtF a S2 = f1 at *
  generalize rtF b S2 = f2 at *
  generalize sR (1 / 2) a b 120 = sr at *
  generalize rR (1 / 2) a b 120 = rr at *
  generalize rtH ^ (a % 2 + b % 2) = h5 at *
  generalize rtH ^ (a % 2) = h3 at *
  generalize rtH ^ (b % 2) = h4 at *
  generalize 2 ^ (a / 2 + b / 2) = z6 at *
  generalize 2 ^ (a / 2) = z3 at *
  generalize 2 ^ (b / 2) = z4 at *
  have d2 := dv (w1 * w2 * (D2 : Rat))
  generalize w1 * w2 * (D2 : Rat) / (N2 : Rat) = y at *
  have key : y * q1 * (f1 * f2) * ((z6 * z5 * N2 * q2 : Nat) : Rat) = ((h5 * D2 * q3 : Nat) : Rat) := by
    rw [cmN, cmN, cmN z6, cS, cH, cmN, cmN h5, cR, ← pq, ← r1, ← r2]
    have e1 : y * q1 * (f1 * f2) * ((z3 : Rat) * (z4 : Rat) * ((z1 : Rat) * (z2 : Rat)) * (N2 : Rat) * (q2 : Rat)) = (y * (N2 : Rat)) * ((z3 : Rat) * (z4 : Rat)) * (q1 * (q2 : Rat)) * (f1 * (z1 : Rat) * (f2 * (z2 : Rat))) := by grind
    have e2 : (w1 * w2 * (D2 : Rat)) * ((z3 : Rat) * (z4 : Rat)) * (q1 * (q2 : Rat)) * (f1 * (z1 : Rat) * (f2 * (z2 : Rat))) = (w1 * (z3 : Rat)) * (w2 * (z4 : Rat)) * (f1 * (z1 : Rat) * (f2 * (z2 : Rat)) * (D2 : Rat) * (q1 * (q2 : Rat))) := by grind
    rw [e1, d2, e2, p1, p3, Rat.one_mul, Rat.one_mul]
  have vp : 0 < z6 * z5 * N2 * q2 := Nat.mul_pos (Nat.mul_pos (Nat.mul_pos n6 n5) hk) n0
  generalize z6 * z5 * N2 * q2 = v at *
  generalize h5 * D2 * q3 = u at *
  clear d2 dv cS cH cR pq r1 r2 p1 p3 N n0 n5 n6 hk hN2 hD2
  generalize y * q1 * (f1 * f2) = C at *
  refine ⟨?_, ?_, ?_⟩
  · rw [cmN, cmN, ← key, ← g2]
    grind
  · rw [cmN, cmN, c3, ← key, ← g2, ← g1]
    grind
  · exact_mod_cast Nat.mul_pos vp g3
def hfLo (a b : Nat) : Rat := fsG a b * (rtF a S2 * rtF b S2) * sR (1 / 2) a b 120
def hfHi (a b : Nat) : Rat := fsG a b * (rtF a S2 * rtF b S2) * (sR (1 / 2) a b 120 + 3 * rR (1 / 2) a b 120)
theorem hf_sum1 {a b : Nat} (ha : 1 ≤ a) (hb : 1 ≤ b) (ha2 : a ≤ 20) (hb2 : b ≤ 20) (h : hfOk a b = true) :
    73786976294838206463 ≤ 73786976294838206464 * (hfLo a b + hfLo b a) ∧ 73786976294838206464 * (hfHi a b + hfHi b a) ≤ 73786976294838206465 := by
  unfold hfLo hfHi
  have p1 := hf_pt (l := (hfN a b).1) (h := (hfN a b).2.1) (e := (hfN a b).2.2) ha hb ha2 hb2 rfl
  have p2 := hf_pt (l := (hfN b a).1) (h := (hfN b a).2.1) (e := (hfN b a).2.2) hb ha hb2 ha2 rfl
  unfold hfOk at h
  generalize hfN a b = X1 at *
  generalize hfN b a = X2 at *
  obtain ⟨l1, h1, e1⟩ := X1
  obtain ⟨l2, h2, e2⟩ := X2
  simp only [pin_eq, Bool.and_eq_true] at h
  obtain ⟨k1, k2⟩ := h
  have m1 := nat_le_rat (Nat.le_of_ble_eq_true k1)
  have m2 := nat_le_rat (Nat.le_of_ble_eq_true k2)
  obtain ⟨a1, a2, a3⟩ := p1
  obtain ⟨b1, b2, b3⟩ := p2
  simp only at a1 a2 a3 b1 b2 b3
  have E := Rat.mul_pos a3 b3
  rw [cmN, cmN, cmN, cnN, cmN l1, cmN l2, ← a1, ← b1] at m1
  rw [cmN, cmN, cmN, cnN, cmN h1, cmN h2, ← a2, ← b2] at m2
  rw [show ((2 ^ 66 - 1 : Nat) : Rat) = 73786976294838206463 from rfl, show ((2 ^ 66 : Nat) : Rat) = 73786976294838206464 from rfl] at m1
  rw [show ((2 ^ 66 + 1 : Nat) : Rat) = 73786976294838206465 from rfl, show ((2 ^ 66 : Nat) : Rat) = 73786976294838206464 from rfl] at m2
  clear a1 a2 b1 b2 k1 k2
  generalize fsG a b * (rtF a S2 * rtF b S2) * sR (1 / 2) a b 120 = u1 at *
  generalize fsG b a * (rtF b S2 * rtF a S2) * sR (1 / 2) b a 120 = u2 at *
  generalize fsG a b * (rtF a S2 * rtF b S2) * (sR (1 / 2) a b 120 + 3 * rR (1 / 2) a b 120) = u3 at *
  generalize fsG b a * (rtF b S2 * rtF a S2) * (sR (1 / 2) b a 120 + 3 * rR (1 / 2) b a 120) = u4 at *
  generalize (e1 : Rat) = x1 at *
  generalize (e2 : Rat) = x2 at *
  refine ⟨le_by E ?_, le_by E ?_⟩
  · have : 73786976294838206464 * (u1 + u2) * (x1 * x2) = 73786976294838206464 * (u1 * x1 * x2 + u2 * x2 * x1) := by grind
    rw [this]; exact m1
  · have : 73786976294838206464 * (u3 + u4) * (x1 * x2) = 73786976294838206464 * (u3 * x1 * x2 + u4 * x2 * x1) := by grind
    rw [this]; exact m2
theorem hf_sum {a b : Nat} (ha : 1 ≤ a) (hb : 1 ≤ b) (ha2 : a ≤ 20) (hb2 : b ≤ 20) :
    73786976294838206463 ≤ 73786976294838206464 * (hfLo a b + hfLo b a) ∧ 73786976294838206464 * (hfHi a b + hfHi b a) ≤ 73786976294838206465 := by
  rcases Nat.le_total a b with h | h
  · exact hf_sum1 ha hb ha2 hb2 (hf_all ha h hb2)
  · have := hf_sum1 hb ha hb2 ha2 (hf_all hb h ha2)
    rw [Rat.add_comm (hfLo a b), Rat.add_comm (hfHi a b)]
    exact this
theorem sR_nnH {x : Rat} {a b : Nat} (h : 0 ≤ x) (k : Nat) : 0 ≤ sR x a b k := Rat.le_trans (show (0 : Rat) ≤ 1 by decide) (sR_up (a := a) (b := b) h (Nat.zero_le k))
section
variable {x : Rat} {a b p : Nat} {s : Bool} {n d : List Nat}
end
end Go.Proofs.YtecjelnpmcnbaaaGreat
namespace Go.Proofs.YtecjelnpmcnbaaaGreat
open Go.Ev
def fsC (a b : Nat) : Rat := (((beta2 a b).den * 2 : Nat) : Rat) * (((beta2 a b).num.natAbs * a : Nat) : Rat)⁻¹ * (if a % 2 * (b % 2) = 1 then 1 / PI0 else 1)
theorem pwR_add (q : Rat) (m n : Nat) : pwR q (m + n) = pwR q m * pwR q n := by
  induction n with
  | zero => show pwR q m = pwR q m * 1; rw [Rat.mul_one]
  | succ n ih => show pwR q (m + n) * q = pwR q m * (pwR q n * q); rw [ih, Rat.mul_assoc]
theorem pwR_half (q : Rat) (a : Nat) : pwR q a = pwR q (a / 2) * pwR q (a / 2) * rtF a q := by
  unfold rtF
  have h : a % 2 = 0 ∨ a % 2 = 1 := by omega
  rcases h with h | h
  · rw [if_neg (by omega), Rat.mul_one, ← pwR_add, show a / 2 + a / 2 = a by omega]
  · rw [if_pos h, ← pwR_add]
    have : a = a / 2 + a / 2 + 1 := by omega
    conv => lhs; rw [this]
    rfl
theorem rtF_sq_lo {q s : Rat} (a : Nat) (h : s * s ≤ q) : rtF a s * rtF a s ≤ rtF a q := by
  unfold rtF
  split
  · exact h
  · rw [Rat.mul_one]; exact Rat.le_refl
theorem rtF_sq_hi {q s : Rat} (a : Nat) (h : q ≤ s * s) : rtF a q ≤ rtF a s * rtF a s := by
  unfold rtF
  split
  · exact h
  · rw [Rat.mul_one]; exact Rat.le_refl
theorem rtF_nn {s : Rat} (a : Nat) (h : 0 ≤ s) : 0 ≤ rtF a s := by
  unfold rtF
  split
  · exact h
  · decide
theorem fstR_sq (a b : Nat) (x sx sy : Rat) : fstR a b x sx sy = fsC a b * (pwR x (a / 2) * rtF a sx * (pwR (1 - x) (b / 2) * rtF b sy)) := by
  unfold fstR fsC rtF
  rw [Rat.div_def]
  generalize (if a % 2 = 1 then sx else 1) = u
  generalize (if b % 2 = 1 then sy else 1) = v
  generalize (if a % 2 * (b % 2) = 1 then 1 / PI0 else 1) = z
  grind
theorem mul_self_nn (x : Rat) : 0 ≤ x * x := by
  rcases Rat.le_total (a := 0) (b := x) with h | h
  · exact Rat.mul_nonneg h h
  · have := Rat.mul_nonneg (show 0 ≤ -x by grind) (show 0 ≤ -x by grind)
    grind
theorem mul_both {a b c d : Rat} (h1 : a ≤ b) (h2 : c ≤ d) (hb : 0 ≤ b) (hc : 0 ≤ c) : a * c ≤ b * d :=
  Rat.le_trans (Rat.mul_le_mul_of_nonneg_right h1 hc) (Rat.mul_le_mul_of_nonneg_left h2 hb)
section
variable {x sx sy : Rat} {a b k : Nat}
theorem sh_lo (hx : 0 ≤ x) (hx1 : x ≤ 1) (h1 : sx * sx ≤ x) (h2 : sy * sy ≤ 1 - x) : fstR a b x sx sy * sR x a b k * (fstR a b x sx sy * sR x a b k) ≤ fsC a b * fsC a b * shG a b k x := by
  have e1 := rtF_sq_lo a h1
  have e2 := rtF_sq_lo b h2
  unfold shG
  rw [fstR_sq, pwR_half x a, pwR_half (1 - x) b]
  have n1 : 0 ≤ pwR x (a / 2) * pwR x (a / 2) := Rat.mul_nonneg (pwR_nn hx _) (pwR_nn hx _)
  have n2 : 0 ≤ pwR (1 - x) (b / 2) * pwR (1 - x) (b / 2) := Rat.mul_nonneg (pwR_nn (by grind) _) (pwR_nn (by grind) _)
  have n3 : 0 ≤ rtF a x := rtF_nn a hx
  have n4 : 0 ≤ rtF b sy * rtF b sy := mul_self_nn _
  have n5 : 0 ≤ fsC a b * fsC a b := mul_self_nn _
  have n6 : 0 ≤ sR x a b k * sR x a b k := mul_self_nn _
  have m := mul_both e1 e2 n3 n4
  have m2 := Rat.mul_le_mul_of_nonneg_left m (Rat.mul_nonneg (Rat.mul_nonneg n5 n6) (Rat.mul_nonneg n1 n2))
  generalize fsC a b = c at *
  generalize sR x a b k = s at *
  generalize pwR x (a / 2) = u at *
  generalize pwR (1 - x) (b / 2) = v at *
  generalize rtF a sx = r1 at *
  generalize rtF b sy = r2 at *
  generalize rtF a x = r3 at *
  generalize rtF b (1 - x) = r4 at *
  have q1 : c * (u * r1 * (v * r2)) * s * (c * (u * r1 * (v * r2)) * s) = c * c * (s * s) * (u * u * (v * v)) * (r1 * r1 * (r2 * r2)) := by grind
  have q2 : c * c * (u * u * r3 * (v * v * r4) * (s * s)) = c * c * (s * s) * (u * u * (v * v)) * (r3 * r4) := by grind
  rw [q1, q2]; exact m2
theorem sh_hi (hx : 0 ≤ x) (hx1 : x ≤ 1) (h1 : x ≤ sx * sx) (h2 : 1 - x ≤ sy * sy) : fsC a b * fsC a b * shG a b k x ≤ fstR a b x sx sy * sR x a b k * (fstR a b x sx sy * sR x a b k) := by
  have e1 := rtF_sq_hi a h1
  have e2 := rtF_sq_hi b h2
  unfold shG
  rw [fstR_sq, pwR_half x a, pwR_half (1 - x) b]
  have n1 : 0 ≤ pwR x (a / 2) * pwR x (a / 2) := Rat.mul_nonneg (pwR_nn hx _) (pwR_nn hx _)
  have n2 : 0 ≤ pwR (1 - x) (b / 2) * pwR (1 - x) (b / 2) := Rat.mul_nonneg (pwR_nn (by grind) _) (pwR_nn (by grind) _)
  have n3 : 0 ≤ rtF a sx * rtF a sx := mul_self_nn _
  have n4 : 0 ≤ rtF b (1 - x) := rtF_nn b (by grind)
  have n5 : 0 ≤ fsC a b * fsC a b := mul_self_nn _
  have n6 : 0 ≤ sR x a b k * sR x a b k := mul_self_nn _
  have m := mul_both e1 e2 n3 n4
  have m2 := Rat.mul_le_mul_of_nonneg_left m (Rat.mul_nonneg (Rat.mul_nonneg n5 n6) (Rat.mul_nonneg n1 n2))
  generalize fsC a b = c at *
  generalize sR x a b k = s at *
  generalize pwR x (a / 2) = u at *
  generalize pwR (1 - x) (b / 2) = v at *
  generalize rtF a sx = r1 at *
  generalize rtF b sy = r2 at *
  generalize rtF a x = r3 at *
  generalize rtF b (1 - x) = r4 at *
  have q1 : c * (u * r1 * (v * r2)) * s * (c * (u * r1 * (v * r2)) * s) = c * c * (s * s) * (u * u * (v * v)) * (r1 * r1 * (r2 * r2)) := by grind
  have q2 : c * c * (u * u * r3 * (v * v * r4) * (s * s)) = c * c * (s * s) * (u * u * (v * v)) * (r3 * r4) := by grind
  rw [q1, q2]; exact m2
end
def RowS (a b w : Nat) (x : Rat) (A B : Nat) : Prop := ∃ K : Nat, ∀ m, K ≤ m → (A : Rat) * (A : Rat) ≤ fsC a b * fsC a b * shG a b m x * (p2 w * p2 w) ∧ fsC a b * fsC a b * shG a b m x * (p2 w * p2 w) ≤ (B : Rat) * (B : Rat)
theorem sq_pair (u w : Rat) : u * w * (u * w) = u * u * (w * w) := by grind
section
variable {x : Rat} {a b p L : Nat}
theorem row_sq (hz : szR x L) (hL1 : 1 ≤ L) (hL : L ≤ 200) (ha : 1 ≤ a) (ha2 : a ≤ 20) (hb : 1 ≤ b) (hb2 : b ≤ 20) (hp : p ≤ 200) (h0 : 0 ≤ x) (h1 : x + x ≤ 1) :
    ∃ A B : Nat, Go.Ev.Fn CX 202 [.int .i64 (a : Int), .int .i64 (b : Int), rv x, .int .i64 ((p + 300 : Nat) : Int)] (spanV A B) ∧ (lim A).length ≤ 100 ∧ (lim B).length ≤ 100 ∧ RowS a b (p + 300) x A B ∧ B ≤ A + 2 ^ 121 := by
  have hx1 : x ≤ 1 := by grind
  obtain ⟨F1, F2, p1, p2', q1, q2, fi, g1, g2, g3, r1, r2, r3, r4, r5, r6, r7, r8, hF⟩ := incb_fst (w := p + 300) ha ha2 hb hb2 hz hL1 hL h0 hx1 (by omega) (by omega)
  obtain ⟨A, B, K, hg⟩ := rowh_ends ha hb2 h0 h1 (by omega) (by omega) g1 g2 g3
  obtain ⟨k1, k2, k3⟩ := rowh_bd ha hb2 h0 h1 (by omega) g1 g2 g3 hg
  have f := incb_rowh ha ha2 hb hb2 hz (by omega) h0 h1 (by omega) (by omega) fi g1 g2 g3 hg
  have lB := lim_len_p2 k3 (by omega)
  have P := p2_pos (p + 300)
  have tell : ∀ sx sy, p1 ≤ sx → sx ≤ p2' → q1 ≤ sy → sy ≤ q2 → b ≤ K ∧ (A : Rat) ≤ fstR a b x sx sy * sR x a b K * p2 (p + 300) ∧ fstR a b x sx sy * sR x a b K * p2 (p + 300) + 64 ≤ (B : Rat) ∧ fstR a b x sx sy * rR x a b K * p2 (p + 300) ≤ 8 := by
    intro sx sy x1 x2 y1 y2
    have en := hF sx sy x1 x2 y1 y2
    have en1 : Enc (p + 300) F1 F2 (fstR a b x sx sy * rR x a b 0) := by
      show Enc _ _ _ (_ * 1)
      rw [Rat.mul_one]; exact en
    have en2 : Enc (p + 300) F1 F2 (fstR a b x sx sy * sR x a b 0) := en1
    exact row_enc (un_enc h0 (p + 300)) 2201 0 _ _ _ _ hg en1 en2
  have nn : ∀ sx sy, p1 ≤ sx → sx ≤ p2' → q1 ≤ sy → sy ≤ q2 → 0 ≤ fstR a b x sx sy := fun sx sy x1 x2 y1 y2 => enc_nonneg (hF sx sy x1 x2 y1 y2)
  refine ⟨A, B, f, Nat.le_trans (lim_len_mono k1) (by omega), by omega, ⟨K, fun m hm => ?_⟩, k2⟩
  obtain ⟨hbK, a1, -, -⟩ := tell p1 q1 Rat.le_refl r1 Rat.le_refl r5
  obtain ⟨-, -, b1, b2⟩ := tell p2' q2 r1 Rat.le_refl r5 Rat.le_refl
  have c1 := nn p1 q1 Rat.le_refl r1 Rat.le_refl r5
  have c2 := nn p2' q2 r1 Rat.le_refl r5 Rat.le_refl
  have s0 := sR_nnH (a := a) (b := b) h0 m
  have s1 := sR_up (a := a) (b := b) h0 hm
  have s2 := sR_top (a := a) (b := b) h0 h1 (k := K) (m := m) hbK
  have lo := sh_lo (a := a) (b := b) (k := m) h0 hx1 r3 r7
  have hi := sh_hi (a := a) (b := b) (k := m) h0 hx1 r4 r8
  have P0 : 0 ≤ p2 (p + 300) := Rat.le_of_lt P
  have A1 : (A : Rat) ≤ fstR a b x p1 q1 * sR x a b m * p2 (p + 300) := Rat.le_trans a1 (Rat.mul_le_mul_of_nonneg_right (Rat.mul_le_mul_of_nonneg_left s1 c1) P0)
  have B1 : fstR a b x p2' q2 * sR x a b m * p2 (p + 300) ≤ (B : Rat) := by
    have t := Rat.mul_le_mul_of_nonneg_right (Rat.mul_le_mul_of_nonneg_left s2 c2) P0
    refine Rat.le_trans t ?_
    clear f fi hg hF tell nn lB lo hi A1 k3 g3
    generalize fstR a b x p2' q2 = u at *
    generalize sR x a b K = v at *
    generalize rR x a b K = v' at *
    generalize p2 (p + 300) = w at *
    have e : u * (v + 3 * v') * w = u * v * w + 3 * (u * v' * w) := by grind
    rw [e]; grind
  have n1 : 0 ≤ fstR a b x p1 q1 * sR x a b m * p2 (p + 300) := Rat.mul_nonneg (Rat.mul_nonneg c1 s0) P0
  have n2 : 0 ≤ fstR a b x p2' q2 * sR x a b m * p2 (p + 300) := Rat.mul_nonneg (Rat.mul_nonneg c2 s0) P0
  have A2 := mul_both A1 A1 n1 (nat_nonneg A)
  have B2 := mul_both B1 B1 (nat_nonneg B) n2
  have lo2 := Rat.mul_le_mul_of_nonneg_right lo (mul_self_nn (p2 (p + 300)))
  have hi2 := Rat.mul_le_mul_of_nonneg_right hi (mul_self_nn (p2 (p + 300)))
  rw [sq_pair] at A2 B2
  exact ⟨Rat.le_trans A2 lo2, Rat.le_trans hi2 B2⟩
end
end Go.Proofs.YtecjelnpmcnbaaaGreat
namespace Go.Proofs.YtecjelnpmcnbaaaGreat
open Go.Ev
section
variable {a b : Nat}
theorem shG_grow {k : Nat} {x y M : Rat} (ha : 1 ≤ a) (ha2 : a ≤ 20) (hb2 : b ≤ 20) (hk : 160 ≤ k) (h0 : 0 < x) (hxy : x ≤ y) (hy : y + y ≤ 1) (hM : ∀ z, 0 ≤ z → z + z ≤ 1 → sR z a b k ≤ M) :
    shG a b k x * (M + 2 * (y - x)) ≤ shG a b k y * M := by
  obtain ⟨q, d1, e1⟩ := dif_pw dif_id a
  obtain ⟨r, d2, e2⟩ := dif_pw dif_one_sub b
  obtain ⟨s, d3, e3⟩ := dif_sR (a := a) (b := b) k
  obtain ⟨c, hc⟩ : ∃ c, c = shG a b k x := ⟨_, rfl⟩
  have d := dif_add (dif_mul (dif_const M) (dif_mul (dif_mul d1 d2) (dif_mul d3 d3))) (dif_mul (dif_const (-(2 * c))) dif_id)
  have t := dif_mono d (x := x) (y := y) (by grind) hxy (by grind) fun z z1 z2 => ?_
  · have t' : M * shG a b k x + -(2 * c) * x ≤ M * shG a b k y + -(2 * c) * y := t
    rw [← hc] at t' ⊢
    grind
  have z0 : 0 < z := by grind
  have P : 0 < z * (1 - z) := Rat.mul_pos z0 (by grind)
  have n1 := pwR_nn (q := z) (by grind) a
  have n2 := pwR_nn (q := 1 - z) (by grind) b
  have n3 : 0 ≤ sR z a b k := sR_nnH (by grind) k
  have up := shG_up (a := a) (b := b) ha ha2 hb2 hk h0 z1 (by grind)
  have late := late_small (x := z) (a := a) (b := b) (by grind) (by grind) ha ha2 hb2 hk
  have r0 := Rat.mul_nonneg (nat_nonneg (a + b + 2 * k)) (rR_nn (x := z) (a := a) (b := b) (by grind) k)
  have A1 : (1 : Rat) ≤ (a : Rat) := by exact_mod_cast ha
  have m := Rat.mul_le_mul_of_nonneg_right late (show 0 ≤ z by grind)
  have hT := e3 z
  have hm := hM z (by grind) (by grind)
  have sl := slope_id (S := sR z a b k) (s := s z) (q := q z) (r := r z) (e1 z) (e2 z)
  rw [← hc] at up
  have up' : c ≤ pwR z a * pwR (1 - z) b * (sR z a b k * sR z a b k) := up
  refine le_by P ?_
  rw [Rat.zero_mul]
  have goal : 0 ≤ (M * ((pwR z a * pwR (1 - z) b * (sR z a b k * s z + s z * sR z a b k) + (pwR z a * r z + q z * pwR (1 - z) b) * (sR z a b k * sR z a b k)) ) + -(2 * c)) * (z * (1 - z)) := by
    have ex : (M * ((pwR z a * pwR (1 - z) b * (sR z a b k * s z + s z * sR z a b k) + (pwR z a * r z + q z * pwR (1 - z) b) * (sR z a b k * sR z a b k)) ) + -(2 * c)) * (z * (1 - z)) =
      M * ((pwR z a * pwR (1 - z) b * (sR z a b k * s z + s z * sR z a b k) + (pwR z a * r z + q z * pwR (1 - z) b) * (sR z a b k * sR z a b k)) * (z * (1 - z))) - 2 * c * (z * (1 - z)) := by
      generalize (pwR z a * pwR (1 - z) b * (sR z a b k * s z + s z * sR z a b k) + (pwR z a * r z + q z * pwR (1 - z) b) * (sR z a b k * sR z a b k)) = G
      grind
    rw [ex, sl, hT]
    have q4 : 4 * (z * (1 - z)) ≤ 1 := by
      have := mul_self_nn (1 - 2 * z)
      grind
    have T2 : 1 ≤ 2 * ((a : Rat) - ((a + b + 2 * k : Nat) : Rat) * z * rR z a b k) := by grind
    have W := Rat.mul_nonneg n1 n2
    clear e1 e2 e3 d d1 d2 d3 sl hT ex hM up n1 n2 late
    generalize (a : Rat) - ((a + b + 2 * k : Nat) : Rat) * z * rR z a b k = T at *
    generalize pwR z a * pwR (1 - z) b = w at *
    generalize sR z a b k = S at *
    generalize z * (1 - z) = p at *
    have k1 : 2 * c * p ≤ 2 * (w * (S * S)) * p := Rat.mul_le_mul_of_nonneg_right (by grind) (by grind)
    have wS := Rat.mul_nonneg W (Rat.mul_nonneg n3 n3)
    have k2 := Rat.mul_le_mul_of_nonneg_left q4 wS
    have wS1 := Rat.mul_nonneg W n3
    have M0 : 0 ≤ M := Rat.le_trans n3 hm
    have k3 := Rat.mul_le_mul_of_nonneg_left hm wS1
    have k4 := Rat.mul_le_mul_of_nonneg_left T2 (Rat.mul_nonneg M0 wS1)
    grind
  have e : (M * ((pwR z a * pwR (1 - z) b) * (sR z a b k * s z + s z * sR z a b k) + (pwR z a * r z + q z * pwR (1 - z) b) * (sR z a b k * sR z a b k)) + 0 * (pwR z a * pwR (1 - z) b * (sR z a b k * sR z a b k)) + (-(2 * c) * 1 + 0 * z)) = (M * ((pwR z a * pwR (1 - z) b * (sR z a b k * s z + s z * sR z a b k) + (pwR z a * r z + q z * pwR (1 - z) b) * (sR z a b k * sR z a b k)) ) + -(2 * c)) := by
    rw [Rat.zero_mul, Rat.zero_mul, Rat.add_zero, Rat.add_zero, Rat.mul_one]
  show 0 ≤ (M * ((pwR z a * pwR (1 - z) b) * (sR z a b k * s z + s z * sR z a b k) + (pwR z a * r z + q z * pwR (1 - z) b) * (sR z a b k * sR z a b k)) + 0 * (pwR z a * pwR (1 - z) b * (sR z a b k * sR z a b k)) + (-(2 * c) * 1 + 0 * z)) * (z * (1 - z))
  rw [e]; exact goal
end
end Go.Proofs.YtecjelnpmcnbaaaGreat
