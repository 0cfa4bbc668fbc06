/- Part 10 of the proof: the evaluator, contracts of functions and their plain laws (joined by program). No condition. -/
import Derived.Test.YtemnjalaincijaaGreatPart9
/- rat.Floor; ball: held, Down, Up, Trim, around, Mul, in the evaluator. -/
namespace Go.Proofs.YtemnjalaincijaaGreat
set_option linter.unusedSimpArgs false
set_option linter.unusedVariables false
set_option maxRecDepth 8000
open Go.Ev
theorem floor_num (q : Rat) : q.floor = q.num / (q.den : Int) := Rat.floor_def q
theorem int_abs {z : Int} {n : Nat} {s : Bool} (h : z = sgn s n) : z.natAbs = n := by rw [h, sgn_abs]
theorem rv_int (z : Int) : rv (z : Rat) = ratV (decide (z < 0)) (lim z.natAbs) [1] := by
  show ratV (decide (z < 0)) (lim z.natAbs) (lim 1) = _
  rw [lim_one]
theorem rat_Floor {v : SV} {q : Rat} {L : Nat} (hv : RatA v q L) (hL1 : 1 ≤ L) (hL : L ≤ 1000000) : Go.Ev.Fn CX 202 [v] (rv ((q.floor : Int) : Rat)) := by
  have n1 := rat_Norm hv (by omega)
  obtain ⟨z1, z2⟩ := szR_of hv hL1
  have dv := nat_DivL (N := q.num.natAbs) (D := q.den) q.den_nz (by omega) (by omega)
  have l1 := lim_len_mono (Nat.div_le_self q.num.natAbs q.den)
  have l2 := lim_len_mono (Nat.mod_le q.num.natAbs q.den)
  have l3 := lim_len1
  have o1 := nat_Of 1 (by omega)
  rw [lim_one] at o1
  have ad := nat_AddL (N := q.num.natAbs / q.den) (D := 1) (by omega) (by omega)
  rw [lim_one] at ad
  have l4 := lim_len_add (a := q.num.natAbs / q.den) (b := 1) (L := 1000000) (by omega) (by omega)
  have sg1 := rat_signed (decide (q.num < 0)) false (lim (q.num.natAbs / q.den)) [1] (by omega)
  have sg2 := rat_signed true false (lim (q.num.natAbs / q.den + 1)) [1] (by omega)
  have e := fall_eq (a := q.num) q.den_nz
  rw [floor_num]
  rw [rv_int]
  have hl := fun (n : Nat) => lenpos (n := n)
  have key : ∀ (s : Bool) (n : Nat), ratV (decide (sgn s n < 0)) (lim (sgn s n).natAbs) [1] = ratV (s && decide (0 < (lim n).length)) (lim n) [1] := by
    intro s n
    rw [sgn_abs, lim_ne]
    by_cases h : n = 0
    · subst h; rw [sgn_zero]; cases s <;> rfl
    · rw [sgn_neg s h, decide_eq_true h, Bool.and_true]
  by_cases h : q.num < 0 ∧ q.num.natAbs % q.den ≠ 0
  · rw [if_pos h] at e
    rw [e, show -((q.num.natAbs / q.den + 1 : Nat) : Int) = sgn true (q.num.natAbs / q.den + 1) from rfl, key]
    have hs : decide (q.num < 0) = true := decide_eq_true h.1
    have hm : decide (q.num.natAbs % q.den ≠ 0) = true := decide_eq_true h.2
    rw [hs] at sg1
    clear e key h
    obtain ⟨s, n, d, rfl, -⟩ := hv
    generalize q.num.natAbs / q.den + 1 = y at *
    generalize q.num.natAbs / q.den = x at *
    generalize q.num.natAbs % q.den = r at *
    generalize (true && decide (0 < (lim y).length)) = z at *
    refine Go.Ev.Fn.intro (fn := Tryz.f202) (body := (Tryz.f202).body.get!) (by kernel_rfl) (by kernel_rfl) (by kernel_rfl) (fun _ => rfl) (Nat.le_of_ble_eq_true (by kernel_rfl)) ?_; unfold Tryz.f202; simp only [Option.get!_some]
    repeat (first | (simp only [go_sem, Nat.reduceEqDiff, Nat.reduceAdd, Nat.reduceSub, Nat.reduceMul, Nat.reduceLeDiff, Nat.reduceLT, reduceIte, reduceCtorEq, Nat.succ_ne_zero, elemsC, Int.reduceToNat, Nat.reducePow, hs, hl, hm]) | (simp (disch := (first | omega | (simp only [AL, List.length_map]; omega))) only [AR, AL, ifT, ifF, take_all, List.length_cons, List.length_nil, Int.reduceToNat, Int.reducePow, Nat.reducePow, hs, hl, hm]) | (refine wk_intro (by kernel_rfl) ?_) | (refine vp_draw (id := 5) (l := [3]) (by kernel_rfl) ?_) | (refine vf_of (by first | exact n1 | exact dv | exact o1 | exact ad | exact sg2) ?_))
  · rw [if_neg h] at e
    rw [e, key]
    by_cases h1 : q.num < 0
    · have hs : decide (q.num < 0) = true := decide_eq_true h1
      have hm : decide (q.num.natAbs % q.den ≠ 0) = false := decide_eq_false (fun g => h ⟨h1, g⟩)
      rw [hs] at sg1
      rw [hs]
      clear e key h h1
      obtain ⟨s, n, d, rfl, -⟩ := hv
      generalize q.num.natAbs / q.den = x at *
      generalize q.num.natAbs % q.den = r at *
      generalize (true && decide (0 < (lim x).length)) = z at *
      refine Go.Ev.Fn.intro (fn := Tryz.f202) (body := (Tryz.f202).body.get!) (by kernel_rfl) (by kernel_rfl) (by kernel_rfl) (fun _ => rfl) (Nat.le_of_ble_eq_true (by kernel_rfl)) ?_; unfold Tryz.f202; simp only [Option.get!_some]
      repeat (first | (simp only [go_sem, Nat.reduceEqDiff, Nat.reduceAdd, Nat.reduceSub, Nat.reduceMul, Nat.reduceLeDiff, Nat.reduceLT, reduceIte, reduceCtorEq, Nat.succ_ne_zero, elemsC, Int.reduceToNat, Nat.reducePow, hs, hl, hm]) | (simp (disch := (first | omega | (simp only [AL, List.length_map]; omega))) only [AR, AL, ifT, ifF, take_all, List.length_cons, List.length_nil, Int.reduceToNat, Int.reducePow, Nat.reducePow, hs, hl, hm]) | (refine wk_intro (by kernel_rfl) ?_) | (refine vp_draw (id := 5) (l := [3]) (by kernel_rfl) ?_) | (refine vf_of (by first | exact n1 | exact dv | exact o1 | exact sg1) ?_))
    · have hs : decide (q.num < 0) = false := decide_eq_false h1
      rw [hs] at sg1
      rw [hs]
      clear e key h h1
      obtain ⟨s, n, d, rfl, -⟩ := hv
      generalize q.num.natAbs / q.den = x at *
      generalize q.num.natAbs % q.den = r at *
      generalize (false && decide (0 < (lim x).length)) = z at *
      refine Go.Ev.Fn.intro (fn := Tryz.f202) (body := (Tryz.f202).body.get!) (by kernel_rfl) (by kernel_rfl) (by kernel_rfl) (fun _ => rfl) (Nat.le_of_ble_eq_true (by kernel_rfl)) ?_; unfold Tryz.f202; simp only [Option.get!_some]
      repeat (first | (simp only [go_sem, Nat.reduceEqDiff, Nat.reduceAdd, Nat.reduceSub, Nat.reduceMul, Nat.reduceLeDiff, Nat.reduceLT, reduceIte, reduceCtorEq, Nat.succ_ne_zero, elemsC, Int.reduceToNat, Nat.reducePow, hs, hl]) | (simp (disch := (first | omega | (simp only [AL, List.length_map]; omega))) only [AR, AL, ifT, ifF, take_all, List.length_cons, List.length_nil, Int.reduceToNat, Int.reducePow, Nat.reducePow, hs, hl]) | (refine wk_intro (by kernel_rfl) ?_) | (refine vp_draw (id := 5) (l := [3]) (by kernel_rfl) ?_) | (refine vf_of (by first | exact n1 | exact dv | exact o1 | exact sg1) ?_))
/-- Rounded down to so many digits. -/
def dnR (q : Rat) (p : Nat) : Rat := mkRat (q * p2 p).floor (2 ^ p)
theorem floor_sz {q : Rat} {L : Nat} (h : szR q L) (hL : 1 ≤ L) : (lim q.floor.natAbs).length ≤ L + 1 := by
  rw [floor_num]
  have := lim_len_mono (abs_div_le q.num q.den_nz)
  have := h.1
  omega
theorem p2_sz {p : Nat} (hp : p ≤ 512) : szR (p2 p) 18 := by
  have l := lim_len_shl (a := 1) (n := p)
  have l1 := lim_len1
  rw [Nat.one_mul] at l
  refine ⟨?_, ?_⟩
  · show (lim (((2 ^ p : Nat) : Int) : Rat).num.natAbs).length ≤ 18
    rw [Rat.num_intCast, Int.natAbs_natCast]; omega
  · show (lim (((2 ^ p : Nat) : Int) : Rat).den).length ≤ 18
    rw [Rat.den_intCast]; omega
theorem dnR_sz {q : Rat} {L p : Nat} (h : szR q L) (hL : 1 ≤ L) (hp : p ≤ 512) : szR (dnR q p) (L + 40) := by
  have h1 := szR_mul h (p2_sz hp) hL
  have h2 := floor_sz h1 (by omega)
  have l := lim_len_shl (a := 1) (n := p)
  have l1 := lim_len1
  rw [Nat.one_mul] at l
  have h3 := szR_mk (s := decide ((q * p2 p).floor < 0)) (n := (q * p2 p).floor.natAbs) (d := 2 ^ p) (L := L + 40) (by omega) (by omega) (by omega)
  rw [sgn_self] at h3
  exact h3
theorem dnR_le (q : Rat) (p : Nat) : dnR q p ≤ q ∧ q * p2 p < dnR q p * p2 p + 1 := by
  have P := p2_pos p
  have m : dnR q p * p2 p = ((q * p2 p).floor : Rat) := by
    unfold dnR
    rw [Rat.mkRat_eq_div]
    exact Rat.div_mul_cancel (by have : (0 : Rat) < ((2 ^ p : Nat) : Rat) := P; grind)
  have f1 := Rat.floor_le (q * p2 p)
  have f2 := Rat.lt_floor_add_one (q * p2 p)
  refine ⟨le_by P (by rw [m]; exact f1), ?_⟩
  rw [m]
  rw [Rat.intCast_add] at f2
  exact f2
/-- Rounded up. -/
def upR (q : Rat) (p : Nat) : Rat := -dnR (-q) p
def mnR (m x : Rat) : Rat := if x < m then x else m
def mxR (m x : Rat) : Rat := if m < x then x else m
/-- The least and the greatest of a number and so many of a row. -/
def loL (f : Rat) (l : List Rat) : Rat := l.foldl mnR f
def hiL (f : Rat) (l : List Rat) : Rat := l.foldl mxR f
theorem loL_snoc (f : Rat) (l : List Rat) {i : Nat} (h : i < l.length) : loL f (l.take (i + 1)) = mnR (loL f (l.take i)) (l.getD i 0) := by
  unfold loL
  rw [List.take_add_one, List.foldl_append, List.getD_eq_getElem?_getD, List.getElem?_eq_getElem h]
  rfl
theorem hiL_snoc (f : Rat) (l : List Rat) {i : Nat} (h : i < l.length) : hiL f (l.take (i + 1)) = mxR (hiL f (l.take i)) (l.getD i 0) := by
  unfold hiL
  rw [List.take_add_one, List.foldl_append, List.getD_eq_getElem?_getD, List.getElem?_eq_getElem h]
  rfl
end Go.Proofs.YtemnjalaincijaaGreat

/- ball: around, Mul, in the evaluator. -/
namespace Go.Proofs.YtemnjalaincijaaGreat
set_option linter.unusedSimpArgs false
set_option linter.unusedVariables false
set_option maxRecDepth 8000
open Go.Ev
/-- A ball's cells. -/
abbrev ballC (a b : Rat) : List SV := [.bool (decide (a.num < 0)), natV (lim a.num.natAbs), natV (lim a.den), .bool (decide (b.num < 0)), natV (lim b.num.natAbs), natV (lim b.den)]
theorem loL_sz {f : Rat} {l : List Rat} {L : Nat} (hf : szR f L) (hl : ∀ x ∈ l, szR x L) : szR (loL f l) L := by
  induction l generalizing f with
  | nil => exact hf
  | cons x l ih =>
    refine ih (f := mnR f x) ?_ (fun y hy => hl y (List.mem_cons_of_mem _ hy))
    unfold mnR
    split
    · exact hl x List.mem_cons_self
    · exact hf
theorem hiL_sz {f : Rat} {l : List Rat} {L : Nat} (hf : szR f L) (hl : ∀ x ∈ l, szR x L) : szR (hiL f l) L := by
  induction l generalizing f with
  | nil => exact hf
  | cons x l ih =>
    refine ih (f := mxR f x) ?_ (fun y hy => hl y (List.mem_cons_of_mem _ hy))
    unfold mxR
    split
    · exact hl x List.mem_cons_self
    · exact hf
set_option maxHeartbeats 1000000 in
theorem ball_around {f : Rat} {l : List Rat} {L : Nat} (hf : szR f L) (hl : ∀ x ∈ l, szR x L) (hL1 : 1 ≤ L) (hL : L ≤ 10000) (hn : l.length ≤ 10) : Go.Ev.Fn CX 188 [rv f, .sl l.length (rvsC l)] (ballR (loL f l) (hiL f l)) := by
  have o := ball_Of (RatA_rv hf) (by omega)
  have hat := fun {i : Nat} (h : i < l.length) => rvsC_at (l := l) (i := i) h
  have hlen := rvsC_len l
  have zlo := fun i => loL_sz (f := f) (l := l.take i) hf (fun x hx => hl x (List.mem_of_mem_take hx))
  have zhi := fun i => hiL_sz (f := f) (l := l.take i) hf (fun x hx => hl x (List.mem_of_mem_take hx))
  have zx := fun {i : Nat} (h : i < l.length) => hl _ (getD_mem (l := l) h)
  have slo := fun {i : Nat} (h : i < l.length) => loL_snoc f l h
  have shi := fun {i : Nat} (h : i < l.length) => hiL_snoc f l h
  generalize hcs : rvsC l = cs at *
  clear hl hf
  refine Go.Ev.Fn.intro (fn := Tryz.f188) (body := (Tryz.f188).body.get!) (by kernel_rfl) (by kernel_rfl) (by kernel_rfl) (fun _ => rfl) (Nat.le_of_ble_eq_true (by kernel_rfl)) ?_; unfold Tryz.f188; simp only [Option.get!_some]
  repeat (first | (simp only [go_sem, Nat.reduceEqDiff, Nat.reduceAdd, Nat.reduceSub, Nat.reduceMul, Nat.reduceLeDiff, Nat.reduceLT, reduceIte, reduceCtorEq, Nat.succ_ne_zero, elemsC, Int.reduceToNat, Nat.reducePow]) | (simp (disch := (first | omega | (simp only [AL, List.length_map]; omega))) only [AR, AL, ifT, ifF, take_all, List.length_cons, List.length_nil, Int.reduceToNat, Int.reducePow, Nat.reducePow]) | (refine wk_intro (by kernel_rfl) ?_) | (refine vf_of (by first | exact o) ?_))
  refine vp_loop_inv (fun s => s.tmp 4 = .ptr 4 0 0 ∧ s.obj 4 0 = some [.bool false, .sl 0 [], .sl 0 [], .bool false, .sl 0 [], .sl 0 []] ∧ s.tmp 5 = .ptr 5 0 0 ∧ s.tmp 10 = .sv (.sl l.length cs) ∧ s.tmp 11 = .sv (.int .i64 (l.length : Int)) ∧
      ∃ i : Nat, s.tmp 12 = .sv (.int .i64 (i : Int)) ∧ i ≤ l.length ∧ s.obj 5 0 = some (ballC (loL f (l.take i)) (hiL f (l.take i))))
    (fun s => match s.tmp 12 with | .sv (.int _ i) => l.length - i.toNat | _ => 0) ⟨rfl, rfl, rfl, rfl, rfl, 0, rfl, by omega, rfl⟩ ?_
  rintro s ⟨i4, o4, i5, i10, i11, i, i12, hi, o5⟩
  by_cases hend : i = l.length
  · subst hend
    rw [List.take_length] at o5
    clear hat zlo zhi zx slo shi
    generalize loL f l = lo at *
    generalize hiL f l = hh at *
    repeat (first | (simp only [go_sem, Nat.reduceEqDiff, Nat.reduceAdd, Nat.reduceSub, Nat.reduceMul, Nat.reduceLeDiff, Nat.reduceLT, reduceIte, reduceCtorEq, Nat.succ_ne_zero, elemsC, Int.reduceToNat, Nat.reducePow, i4, o4, i5, i10, i11, i12, o5, ballC]) | (simp (disch := (first | omega | (simp only [AL, List.length_map]; omega))) only [AR, AL, ifT, ifF, take_all, List.length_cons, List.length_nil, Int.reduceToNat, Int.reducePow, Nat.reducePow, i4, o4, i5, i10, i11, i12, o5, ballC]) | (refine wk_intro (by kernel_rfl) ?_))
  · obtain ⟨rest, g1⟩ := hat (i := i) (by omega)
    have a1 := zlo i
    have a2 := zhi i
    have a3 := zx (i := i) (by omega)
    have b1 := slo (i := i) (by omega)
    have b2 := shi (i := i) (by omega)
    generalize hlo' : loL f (l.take (i + 1)) = lo' at *
    generalize hhi' : hiL f (l.take (i + 1)) = hi' at *
    generalize loL f (l.take i) = lo at *
    generalize hiL f (l.take i) = hh at *
    generalize l.getD i 0 = x at *
    have c1 := rat_Cmp (RatA_rv a3) (RatA_rv a1) hL1 hL1 (by omega)
    have c2 := rat_Cmp (RatA_rv a3) (RatA_rv a2) hL1 hL1 (by omega)
    have nx := rat_Norm (RatA_rv a3) (by omega)
    have e1 := cmpR_lt (q := x) (r := lo)
    have e2 := cmpR_gt (q := x) (r := hh)
    clear hat zlo zhi zx slo shi a1 a2 a3
    generalize cmpR x lo = z1 at *
    generalize cmpR x hh = z2 at *
    unfold ballC at o5
    by_cases k1 : x < lo
    · rw [decide_eq_true k1] at e1
      rw [mnR, if_pos k1] at b1
      by_cases k2 : hh < x
      · rw [decide_eq_true k2] at e2
        rw [mxR, if_pos k2] at b2
        clear k1 k2
        repeat (first | (simp only [go_sem, Nat.reduceEqDiff, Nat.reduceAdd, Nat.reduceSub, Nat.reduceMul, Nat.reduceLeDiff, Nat.reduceLT, reduceIte, reduceCtorEq, Nat.succ_ne_zero, elemsC, Int.reduceToNat, Nat.reducePow, i4, o4, i5, i10, i11, i12, o5, g1, hlen, e1, e2]) | (simp (disch := (first | omega | (simp only [AL, List.length_map]; omega))) only [AR, AL, ifT, ifF, take_all, List.length_cons, List.length_nil, Int.reduceToNat, Int.reducePow, Nat.reducePow, i4, o4, i5, i10, i11, i12, o5, g1, hlen, e1, e2]) | (refine wk_intro (by kernel_rfl) ?_) | (refine vf_of (by first | exact c1 | exact nx | exact c2) ?_))
        exact ⟨⟨i + 1, rfl, by omega, by rw [hlo', hhi', b1, b2]⟩, by omega⟩
      · rw [decide_eq_false k2] at e2
        rw [mxR, if_neg k2] at b2
        clear k1 k2
        repeat (first | (simp only [go_sem, Nat.reduceEqDiff, Nat.reduceAdd, Nat.reduceSub, Nat.reduceMul, Nat.reduceLeDiff, Nat.reduceLT, reduceIte, reduceCtorEq, Nat.succ_ne_zero, elemsC, Int.reduceToNat, Nat.reducePow, i4, o4, i5, i10, i11, i12, o5, g1, hlen, e1, e2]) | (simp (disch := (first | omega | (simp only [AL, List.length_map]; omega))) only [AR, AL, ifT, ifF, take_all, List.length_cons, List.length_nil, Int.reduceToNat, Int.reducePow, Nat.reducePow, i4, o4, i5, i10, i11, i12, o5, g1, hlen, e1, e2]) | (refine wk_intro (by kernel_rfl) ?_) | (refine vf_of (by first | exact c1 | exact nx | exact c2) ?_))
        exact ⟨⟨i + 1, rfl, by omega, by rw [hlo', hhi', b1, b2]⟩, by omega⟩
    · rw [decide_eq_false k1] at e1
      rw [mnR, if_neg k1] at b1
      by_cases k2 : hh < x
      · rw [decide_eq_true k2] at e2
        rw [mxR, if_pos k2] at b2
        clear k1 k2
        repeat (first | (simp only [go_sem, Nat.reduceEqDiff, Nat.reduceAdd, Nat.reduceSub, Nat.reduceMul, Nat.reduceLeDiff, Nat.reduceLT, reduceIte, reduceCtorEq, Nat.succ_ne_zero, elemsC, Int.reduceToNat, Nat.reducePow, i4, o4, i5, i10, i11, i12, o5, g1, hlen, e1, e2]) | (simp (disch := (first | omega | (simp only [AL, List.length_map]; omega))) only [AR, AL, ifT, ifF, take_all, List.length_cons, List.length_nil, Int.reduceToNat, Int.reducePow, Nat.reducePow, i4, o4, i5, i10, i11, i12, o5, g1, hlen, e1, e2]) | (refine wk_intro (by kernel_rfl) ?_) | (refine vf_of (by first | exact c1 | exact c2 | exact nx) ?_))
        exact ⟨⟨i + 1, rfl, by omega, by rw [hlo', hhi', b1, b2]⟩, by omega⟩
      · rw [decide_eq_false k2] at e2
        rw [mxR, if_neg k2] at b2
        clear k1 k2
        repeat (first | (simp only [go_sem, Nat.reduceEqDiff, Nat.reduceAdd, Nat.reduceSub, Nat.reduceMul, Nat.reduceLeDiff, Nat.reduceLT, reduceIte, reduceCtorEq, Nat.succ_ne_zero, elemsC, Int.reduceToNat, Nat.reducePow, i4, o4, i5, i10, i11, i12, o5, g1, hlen, e1, e2]) | (simp (disch := (first | omega | (simp only [AL, List.length_map]; omega))) only [AR, AL, ifT, ifF, take_all, List.length_cons, List.length_nil, Int.reduceToNat, Int.reducePow, Nat.reducePow, i4, o4, i5, i10, i11, i12, o5, g1, hlen, e1, e2]) | (refine wk_intro (by kernel_rfl) ?_) | (refine vf_of (by first | exact c1 | exact c2) ?_))
        exact ⟨⟨i + 1, rfl, by omega, by rw [hlo', hhi', b1, b2]⟩, by omega⟩
theorem ball_Mul {a b c d : Rat} {L : Nat} (ha : szR a L) (hb : szR b L) (hc : szR c L) (hd : szR d L) (hL1 : 1 ≤ L) (hL : L ≤ 1000) :
    Go.Ev.Fn CX 148 [ballR a b, ballR c d] (ballR (loL (a * c) [a * d, b * c, b * d]) (hiL (a * c) [a * d, b * c, b * d])) := by
  have m1 := rat_Mul (RatA_rv ha) (RatA_rv hc) hL1 hL1 (by omega)
  have m2 := rat_Mul (RatA_rv ha) (RatA_rv hd) hL1 hL1 (by omega)
  have m3 := rat_Mul (RatA_rv hb) (RatA_rv hc) hL1 hL1 (by omega)
  have m4 := rat_Mul (RatA_rv hb) (RatA_rv hd) hL1 hL1 (by omega)
  have z1 := szR_mul ha hc hL1
  have z2 := szR_mul ha hd hL1
  have z3 := szR_mul hb hc hL1
  have z4 := szR_mul hb hd hL1
  generalize a * c = p1 at *
  generalize a * d = p2 at *
  generalize b * c = p3 at *
  generalize b * d = p4 at *
  have ar := ball_around (f := p1) (l := [p2, p3, p4]) (L := L + L) z1 (by
    intro x hx
    simp only [List.mem_cons, List.not_mem_nil, or_false] at hx
    rcases hx with rfl | rfl | rfl <;> assumption) (by omega) (by omega) (by simp)
  have ar' : Go.Ev.Fn CX 188 [rv p1, .sl 3 [.bool (decide (p2.num < 0)), natV (lim p2.num.natAbs), natV (lim p2.den), .bool (decide (p3.num < 0)), natV (lim p3.num.natAbs), natV (lim p3.den), .bool (decide (p4.num < 0)), natV (lim p4.num.natAbs), natV (lim p4.den)]] (ballR (loL p1 [p2, p3, p4]) (hiL p1 [p2, p3, p4])) := ar
  clear ar
  generalize loL p1 [p2, p3, p4] = lo at *
  generalize hiL p1 [p2, p3, p4] = hi at *
  refine Go.Ev.Fn.intro (fn := Tryz.f148) (body := (Tryz.f148).body.get!) (by kernel_rfl) (by kernel_rfl) (by kernel_rfl) (fun _ => rfl) (Nat.le_of_ble_eq_true (by kernel_rfl)) ?_; unfold Tryz.f148; simp only [Option.get!_some]
  repeat (first | (simp only [go_sem, Nat.reduceEqDiff, Nat.reduceAdd, Nat.reduceSub, Nat.reduceMul, Nat.reduceLeDiff, Nat.reduceLT, reduceIte, reduceCtorEq, Nat.succ_ne_zero, elemsC, Int.reduceToNat, Nat.reducePow]) | (simp (disch := (first | omega | (simp only [AL, List.length_map]; omega))) only [AR, AL, ifT, ifF, take_all, List.length_cons, List.length_nil, Int.reduceToNat, Int.reducePow, Nat.reducePow]) | (refine wk_intro (by kernel_rfl) ?_) | (refine vp_draw (id := 1) (l := [25]) (by kernel_rfl) ?_) | (refine vf_of (by first | exact m1 | exact m2 | exact m3 | exact m4 | exact ar') ?_))
end Go.Proofs.YtemnjalaincijaaGreat

/- A number times roots of pi, in balls: plain mathematics. -/
namespace Go.Proofs.YtemnjalaincijaaGreat
open Go.Ev
set_option linter.unusedVariables false
theorem p2_add (a b : Nat) : p2 (a + b) = p2 a * p2 b := by
  show ((2 ^ (a + b) : Nat) : Rat) = _
  rw [Nat.pow_add]
  exact_mod_cast rfl
theorem n_mul (a b : Nat) : ((a * b : Nat) : Rat) = (a : Rat) * (b : Rat) := by exact_mod_cast rfl
theorem n_le {a b : Nat} (h : a ≤ b) : (a : Rat) ≤ (b : Rat) := by exact_mod_cast h
theorem n_nn (a : Nat) : (0 : Rat) ≤ (a : Rat) := by exact_mod_cast Nat.zero_le a
/-- The constant near the root of pi. -/
def SQ : Rat := mkRat (rootPi : Int) (2 ^ 400)
theorem SQ_mul : SQ * p2 400 = (rootPi : Rat) := by
  unfold SQ
  rw [Rat.mkRat_eq_div]
  exact Rat.div_mul_cancel (by have : (0 : Rat) < p2 400 := p2_pos 400; grind)
theorem SQ_nn : 0 ≤ SQ := le_by (p2_pos 400) (by rw [SQ_mul, Rat.zero_mul]; exact n_nn _)
theorem sq_split {p : Nat} (hp : p ≤ 800) : SQ * SQ * p2 p * p2 (800 - p) = ((rootPi * rootPi : Nat) : Rat) := by
  have h1 : p2 p * p2 (800 - p) = p2 400 * p2 400 := by rw [← p2_add, ← p2_add]; congr 1; omega
  have h2 : SQ * SQ * p2 p * p2 (800 - p) = SQ * SQ * (p2 p * p2 (800 - p)) := by grind
  have h3 : SQ * SQ * (p2 400 * p2 400) = (SQ * p2 400) * (SQ * p2 400) := by grind
  rw [h2, h1, h3, SQ_mul, n_mul]
theorem sq_lo {a p : Nat} (hp : p ≤ 800) (h : a * 2 ^ (800 - p) ≤ rootPi * rootPi) : (a : Rat) ≤ SQ * SQ * p2 p := by
  refine le_by (p2_pos (800 - p)) ?_
  rw [sq_split hp]
  have := n_le h
  rw [n_mul] at this
  exact this
theorem sq_hi {a p : Nat} (hp : p ≤ 800) (h : rootPi * rootPi ≤ a * 2 ^ (800 - p)) : SQ * SQ * p2 p ≤ (a : Rat) := by
  refine le_by (p2_pos (800 - p)) ?_
  rw [sq_split hp]
  have := n_le h
  rw [n_mul a] at this
  exact this
theorem sq_ge {a p : Nat} (hp : p ≤ 400) (h : rootPi * rootPi ≤ (a + 1) * 2 ^ (800 - p)) : 2 ^ p ≤ a := by
  have h1 : 2 * 2 ^ 800 ≤ rootPi * rootPi := by decide +kernel
  have h2 : 2 ^ 800 = 2 ^ p * 2 ^ (800 - p) := by rw [← Nat.pow_add]; congr 1; omega
  have h3 : 0 < 2 ^ (800 - p) := Nat.pow_pos (by omega)
  have h4 : 2 * 2 ^ p * 2 ^ (800 - p) ≤ (a + 1) * 2 ^ (800 - p) := by rw [Nat.mul_assoc, ← h2]; exact Nat.le_trans h1 h
  have h5 := Nat.le_of_mul_le_mul_right h4 h3
  have h6 : 0 < 2 ^ p := Nat.pow_pos (by omega)
  omega
theorem sq_mono {x y : Rat} (hx : 0 ≤ x) (hy : 0 ≤ y) (h : x * x ≤ y * y) : x ≤ y := by
  rcases Rat.le_total (a := x) (b := y) with g | g
  · exact g
  · by_cases e : y = x
    · rw [e]; exact Rat.le_refl
    · have h1 : y < x := by grind
      have h2 : y * y ≤ x * y := Rat.mul_le_mul_of_nonneg_right g hy
      have h3 : x * y < x * x := by
        have : 0 < x * (x - y) := Rat.mul_pos (by grind) (by grind)
        grind
      grind
theorem root_width {lo lo' hi' hi A B P : Rat} (hP : 0 < P) (a2 : lo ≤ lo') (a4 : A ≤ lo' * lo') (a5 : (lo' - lo) * P ≤ 1) (h0 : 0 ≤ lo) (b1 : 0 ≤ hi') (b3 : hi' * hi' ≤ B) (b5 : (hi - hi') * P ≤ 1) (hA : 1 ≤ A) (hAB : (B - A) * P ≤ 1) (hAB0 : A ≤ B) : (hi - lo) * P ≤ 3 := by
  have l0 : 0 ≤ lo' := Rat.le_trans h0 a2
  have l1 : 1 ≤ lo' := sq_mono (by decide) l0 (by rw [Rat.mul_one]; exact Rat.le_trans hA a4)
  have key : hi' - lo' ≤ B - A := by
    rcases Rat.le_total (a := hi') (b := lo') with g | g
    · grind
    · have h1 : (hi' - lo') * 1 ≤ (hi' - lo') * (hi' + lo') := Rat.mul_le_mul_of_nonneg_left (by grind) (by grind)
      have h2 : (hi' - lo') * (hi' + lo') = hi' * hi' - lo' * lo' := by grind
      grind
  have k2 := Rat.mul_le_mul_of_nonneg_right key (show 0 ≤ P by grind)
  have e : (hi - lo) * P = (hi - hi') * P + (hi' - lo') * P + (lo' - lo) * P := by grind
  grind
theorem ball_one {q m1 m2 T K : Rat} (h1 : m1 ≤ T) (h2 : T ≤ m2) (hK : q ≤ K) (hK2 : -q ≤ K) :
    loL (q * m1) [q * m2, q * m1, q * m2] ≤ q * T ∧ q * T ≤ hiL (q * m1) [q * m2, q * m1, q * m2] ∧ hiL (q * m1) [q * m2, q * m1, q * m2] - loL (q * m1) [q * m2, q * m1, q * m2] ≤ K * (m2 - m1) := by
  have hm : m1 ≤ m2 := Rat.le_trans h1 h2
  have hd : 0 ≤ m2 - m1 := by grind
  have sh1 : loL (q * m1) [q * m2, q * m1, q * m2] = mnR (mnR (mnR (q * m1) (q * m2)) (q * m1)) (q * m2) := rfl
  have sh2 : hiL (q * m1) [q * m2, q * m1, q * m2] = mxR (mxR (mxR (q * m1) (q * m2)) (q * m1)) (q * m2) := rfl
  rcases Rat.le_total (a := 0) (b := q) with g | g
  · have e1 := Rat.mul_le_mul_of_nonneg_left h1 g
    have e2 := Rat.mul_le_mul_of_nonneg_left h2 g
    have e3 := Rat.mul_le_mul_of_nonneg_left hm g
    have e4 := Rat.mul_le_mul_of_nonneg_right hK hd
    have l : loL (q * m1) [q * m2, q * m1, q * m2] = q * m1 := by
      rw [sh1, show mnR (q * m1) (q * m2) = q * m1 from if_neg (by grind), show mnR (q * m1) (q * m1) = q * m1 from if_neg (by grind)]
      exact if_neg (by grind)
    have h : hiL (q * m1) [q * m2, q * m1, q * m2] = q * m2 := by
      have x1 : mxR (q * m1) (q * m2) = q * m2 := by unfold mxR; split <;> grind
      have x2 : mxR (q * m2) (q * m1) = q * m2 := by unfold mxR; split <;> grind
      have x3 : mxR (q * m2) (q * m2) = q * m2 := by unfold mxR; split <;> grind
      rw [sh2, x1, x2, x3]
    rw [l, h]
    refine ⟨e1, e2, ?_⟩
    grind
  · have f : ∀ {x y : Rat}, x ≤ y → q * y ≤ q * x := by
      intro x y hxy
      have := Rat.mul_le_mul_of_nonneg_left hxy (show 0 ≤ -q by grind)
      grind
    have e1 := f h1
    have e2 := f h2
    have e3 := f hm
    have e4 := Rat.mul_le_mul_of_nonneg_right hK2 hd
    have l : loL (q * m1) [q * m2, q * m1, q * m2] = q * m2 := by
      have x1 : mnR (q * m1) (q * m2) = q * m2 := by unfold mnR; split <;> grind
      have x2 : mnR (q * m2) (q * m1) = q * m2 := by unfold mnR; split <;> grind
      have x3 : mnR (q * m2) (q * m2) = q * m2 := by unfold mnR; split <;> grind
      rw [sh1, x1, x2, x3]
    have h : hiL (q * m1) [q * m2, q * m1, q * m2] = q * m1 := by
      rw [sh2, show mxR (q * m1) (q * m2) = q * m1 from if_neg (by grind), show mxR (q * m1) (q * m1) = q * m1 from if_neg (by grind)]
      exact if_neg (by grind)
    rw [l, h]
    refine ⟨e2, e1, ?_⟩
    grind
/-- A number is not above two to as many bits as its limbs take. -/
theorem num_bound (q : Rat) : q ≤ p2 (32 * (lim q.num.natAbs).length) ∧ -q ≤ p2 (32 * (lim q.num.natAbs).length) := by
  have h1 := lim_len_pow (a := q.num.natAbs)
  have h2 : ((q.num.natAbs : Nat) : Rat) ≤ p2 (32 * (lim q.num.natAbs).length) := by
    show _ ≤ ((2 ^ (32 * (lim q.num.natAbs).length) : Nat) : Rat)
    refine n_le ?_
    rw [Nat.pow_mul]
    exact Nat.le_of_lt h1
  have h3 : q * (q.den : Rat) = (q.num : Rat) := by
    have h : mkRat q.num q.den * (q.den : Rat) = (q.num : Rat) := by
      rw [Rat.mkRat_eq_div]
      refine Rat.div_mul_cancel ?_
      have : (0 : Rat) < (q.den : Rat) := by exact_mod_cast q.den_pos
      grind
    rwa [Rat.mkRat_self] at h
  have h4 : (1 : Rat) ≤ (q.den : Rat) := by
    have := n_le q.den_pos
    exact this
  have h5 : (q.num : Rat) ≤ ((q.num.natAbs : Nat) : Rat) := by
    have : q.num ≤ (q.num.natAbs : Int) := by omega
    exact Rat.intCast_le_intCast.2 this
  have h6 : -(q.num : Rat) ≤ ((q.num.natAbs : Nat) : Rat) := by
    have : -q.num ≤ (q.num.natAbs : Int) := by omega
    have := Rat.intCast_le_intCast.2 this
    rw [Rat.intCast_neg] at this
    exact this
  generalize p2 (32 * (lim q.num.natAbs).length) = K at *
  generalize ((q.num.natAbs : Nat) : Rat) = N at *
  have hN : 0 ≤ N := by grind
  constructor
  · rcases Rat.le_total (a := 0) (b := q) with g | g
    · have := Rat.mul_le_mul_of_nonneg_left h4 g
      grind
    · grind
  · rcases Rat.le_total (a := 0) (b := q) with g | g
    · grind
    · have := Rat.mul_le_mul_of_nonneg_left h4 (show 0 ≤ -q by grind)
      grind
theorem trim_width {lo hi m1 m2 K : Rat} {P len : Nat} (hK : K = p2 (32 * len)) (h1 : hi - lo ≤ K * (m2 - m1)) (h2 : (m2 - m1) * p2 (P + 8 + 32 * len) ≤ 3) : (upR hi (P + 8) - dnR lo (P + 8)) * p2 P ≤ 1 := by
  have d := (dnR_le lo (P + 8)).2
  have u := (dnR_le (-hi) (P + 8)).2
  have P1 := p2_pos P
  have P2 := p2_pos (P + 8)
  have e1 : p2 (P + 8 + 32 * len) = p2 (P + 8) * K := by rw [p2_add, hK]
  rw [e1] at h2
  have h3 := Rat.mul_le_mul_of_nonneg_right h1 (show 0 ≤ p2 (P + 8) by grind)
  have e2 : p2 (P + 8) = p2 P * 256 := by rw [p2_add]; congr 1
  have h4 : (upR hi (P + 8) - dnR lo (P + 8)) * p2 (P + 8) ≤ 5 := by
    unfold upR
    grind
  rw [e2] at h4
  grind
end Go.Proofs.YtemnjalaincijaaGreat

/- root: Int, whole, Square, Sqrt, Of, in the evaluator. -/
namespace Go.Proofs.YtemnjalaincijaaGreat
set_option linter.unusedSimpArgs false
set_option linter.unusedVariables false
set_option maxRecDepth 8000
open Go.Ev
theorem four_mul_le (x y : Nat) : 4 * (x * y) ≤ (x + y) * (x + y) := by
  rcases Nat.le_total x y with h | h
  · obtain ⟨k, rfl⟩ := Nat.exists_eq_add_of_le h
    have : (x + (x + k)) * (x + (x + k)) = 4 * (x * (x + k)) + k * k := by grind
    omega
  · obtain ⟨k, rfl⟩ := Nat.exists_eq_add_of_le h
    have : (y + k + y) * (y + k + y) = 4 * ((y + k) * y) + k * k := by grind
    omega
/-- A step of the root's loop stays above the root. -/
theorem newton_up {a x : Nat} (hx : 0 < x) : a < ((x + a / x) / 2 + 1) * ((x + a / x) / 2 + 1) := by
  have h1 : a < x * (a / x + 1) := by
    have := Nat.div_add_mod a x
    have := Nat.mod_lt a hx
    rw [Nat.mul_add, Nat.mul_one]; omega
  have h2 := four_mul_le x (a / x + 1)
  generalize a / x = q at *
  have h3 : x + (q + 1) ≤ 2 * ((x + q) / 2 + 1) := by omega
  have h4 := Nat.mul_le_mul h3 h3
  generalize (x + q) / 2 + 1 = m at *
  have h5 : 2 * m * (2 * m) = 4 * (m * m) := by grind
  omega
theorem newton_stop {a x : Nat} (hx : 0 < x) (h : x ≤ (x + a / x) / 2) : x * x ≤ a := by
  have h1 : x ≤ a / x := by omega
  have h2 := Nat.mul_le_mul_left x h1
  have h3 := Nat.mul_div_le a x
  omega
def vN (v : SV) : Nat := match decV v with
  | some xs => wth xs
  | none => 0
theorem vN_lim {x : Nat} (h : (lim x).length ≤ 1073741824) : vN (natV (lim x)) = x := by
  unfold vN
  rw [decV_nat (okL_lim x) h]
  exact wth_lim x
theorem lim_p32 (n : Nat) : lim (4294967296 ^ n) = List.replicate n 0 ++ [1] := by
  have h := lim_unique (xs := List.replicate n 0 ++ [1]) (okL_append.2 ⟨okL_replicate _, by simp [okL]⟩) (.inr ⟨_, 1, rfl, by decide⟩)
  rw [wth_append, wth_replicate, List.length_replicate, Nat.zero_add, show wth [1] = 1 from rfl, Nat.mul_one] at h
  exact h.symm
theorem set_last (n : Nat) : ((List.replicate (n + 1) 0).set n 1 : List Nat) = List.replicate n 0 ++ [1] := by
  rw [List.replicate_succ', List.set_append_right _ _ (by simp), List.length_replicate, Nat.sub_self]
  rfl
set_option maxHeartbeats 1000000 in
theorem root_Int {a : Nat} (h : (lim a).length ≤ 1000) : Go.Ev.Fn CX 212 [natV (lim a)] (natV (lim (rtN a))) := by
  have b := nat_Bits (N := a) (by omega)
  have hb : a < 2 ^ blen a := blen_iff.1 (Nat.le_refl _)
  by_cases h0 : a = 0
  · subst h0
    have e : rtN 0 = 0 := (rtN_eq (a := 0) (r := 0) (by omega) (by omega)).symm
    rw [e, lim_zero]
    rw [lim_zero, show blen 0 = 0 from rfl] at b
    refine Go.Ev.Fn.intro (fn := Tryz.f212) (body := (Tryz.f212).body.get!) (by kernel_rfl) (by kernel_rfl) (by kernel_rfl) (fun _ => rfl) (Nat.le_of_ble_eq_true (by kernel_rfl)) ?_; unfold Tryz.f212; simp only [Option.get!_some]
    repeat (first | (simp only [go_sem, Nat.reduceEqDiff, Nat.reduceAdd, Nat.reduceSub, Nat.reduceMul, Nat.reduceLeDiff, Nat.reduceLT, reduceIte, reduceCtorEq, Nat.succ_ne_zero, elemsC, Int.reduceToNat, Nat.reducePow]) | (simp (disch := (first | omega | (simp only [AL, List.length_map]; omega))) only [AR, AL, ifT, ifF, take_all, List.length_cons, List.length_nil, Int.reduceToNat, Int.reducePow, Nat.reducePow]) | (refine wk_intro (by kernel_rfl) ?_) | (refine vf_of (by first | exact b) ?_))
    rfl
  have hB0 : blen a ≠ 0 := fun e => by rw [e] at hb; omega
  have hBl : blen a ≤ 32000 := by
    obtain ⟨K, hK⟩ : ∃ K : Nat, K = 32000 := ⟨_, rfl⟩
    rw [← hK]
    refine blen_iff.2 (Nat.lt_of_lt_of_le lim_len_pow ?_)
    rw [show (4294967296 : Nat) = 2 ^ 32 from rfl, ← Nat.pow_mul]
    exact Nat.pow_le_pow_right (by omega) (by omega)
  generalize blen a = B at *
  have ha0 : a < 4294967296 ^ (B / 64 + 1) * 4294967296 ^ (B / 64 + 1) := by
    refine Nat.lt_of_lt_of_le hb ?_
    rw [← Nat.pow_add, show (4294967296 : Nat) = 2 ^ 32 from rfl, ← Nat.pow_mul]
    exact Nat.pow_le_pow_right (by omega) (by omega)
  have l0 := lim_p32 (B / 64 + 1)
  have hn : B / 64 + 1 ≤ 501 := by omega
  have tq : (B : Int).tdiv 64 = ((B / 64 : Nat) : Int) := _root_.id rfl
  have sl := set_last (B / 64 + 1)
  rw [← l0] at sl
  have x0pos : 0 < 4294967296 ^ (B / 64 + 1) := Nat.pow_pos (by omega)
  have ll : (lim (4294967296 ^ (B / 64 + 1))).length = B / 64 + 2 := by rw [l0]; simp
  have wp := wth_lim (4294967296 ^ (B / 64 + 1))
  generalize 4294967296 ^ (B / 64 + 1) = x0 at *
  -- one round
  have round : ∀ x, 0 < x → (lim x).length ≤ 1000 → Go.Ev.Fn CX 174 [natV (lim a), natV (lim x)] (.tup [natV (lim (a / x)), natV (lim (a % x)), .bool true]) ∧ Go.Ev.Fn CX 154 [natV (lim x), natV (lim (a / x))] (natV (lim (x + a / x))) ∧
      Go.Ev.Fn CX 179 [natV (lim (x + a / x)), .int .i64 (-1)] (natV (lim ((x + a / x) / 2))) ∧ Go.Ev.Fn CX 205 [natV (lim ((x + a / x) / 2)), natV (lim x)] (.int .i64 (cmpN ((x + a / x) / 2) x)) := by
    intro x hx hl
    have l1 := lim_len_mono (Nat.div_le_self a x)
    have l2 := lim_len_add (a := x) (b := a / x) (L := 1000) (by omega) (by omega)
    have l3 := lim_len_mono (Nat.div_le_self (x + a / x) 2)
    have s := nat_shr (N := x + a / x) (m := 1) (by omega) (by omega) (by omega)
    rw [Nat.pow_one] at s
    exact ⟨nat_DivL (by omega) (by omega) (by omega), nat_AddL (by omega) (by omega), s, nat_CmpL (by omega) (by omega)⟩
  have tr : ∀ x, (lim x).length ≤ 1000 → Go.Ev.Fn CX 172 [natV (lim x)] (natV (lim x)) := by
    intro x hl
    have := nat_Trim (lim x) (okL_lim x) (by omega)
    rwa [wth_lim] at this
  have tn : (((B / 64 : Nat) : Int) + 2).toNat = B / 64 + 2 := by omega
  refine Go.Ev.Fn.intro (fn := Tryz.f212) (body := (Tryz.f212).body.get!) (by kernel_rfl) (by kernel_rfl) (by kernel_rfl) (fun _ => rfl) (Nat.le_of_ble_eq_true (by kernel_rfl)) ?_; unfold Tryz.f212; simp only [Option.get!_some]
  repeat (first | (simp only [go_sem, Nat.reduceEqDiff, Nat.reduceAdd, Nat.reduceSub, Nat.reduceMul, Nat.reduceLeDiff, Nat.reduceLT, reduceIte, reduceCtorEq, Nat.succ_ne_zero, elemsC, Int.reduceToNat, Nat.reducePow, tq, tn]) | (simp (disch := (first | omega | (simp only [AL, List.length_map]; omega))) only [AR, AL, ifT, ifF, take_all, List.length_cons, List.length_nil, Int.reduceToNat, Int.reducePow, Nat.reducePow, tq, tn]) | (refine wk_intro (by kernel_rfl) ?_) | (refine vf_of (by first | exact b) ?_))
  have hstep : ∀ x, 0 < x → a < (x + 1) * (x + 1) → ∀ y, y = (x + a / x) / 2 → ¬ x ≤ y → 0 < y ∧ a < (y + 1) * (y + 1) ∧ y < x := by
    rintro x hx - y rfl hxy
    have := newton_up (a := a) hx
    refine ⟨?_, this, by omega⟩
    rcases Nat.eq_zero_or_pos ((x + a / x) / 2) with e | e
    · rw [e] at this; omega
    · exact e
  refine vp_loop_inv (fun s => s.tmp 0 = .sv (natV (lim a)) ∧ ∃ x : Nat, 0 < x ∧ (lim x).length ≤ 600 ∧ x ≤ x0 ∧ a < (x + 1) * (x + 1) ∧ (s.tmp 3 = .sv (natV (lim x)) ∨ x = x0 ∧ s.tmp 3 = .ref 15 0 1 0 (B / 64 + 2) ∧ s.obj 15 0 = some ((lim x0).map limb)))
    (fun s => match s.tmp 3 with | .sv v => vN v | _ => x0 + 1) ?_ ?_
  · refine ⟨rfl, x0, x0pos, by omega, Nat.le_refl _, by have := Nat.mul_le_mul (show x0 ≤ x0 + 1 by omega) (show x0 ≤ x0 + 1 by omega); omega, .inr ⟨rfl, by first | rfl | (rw [← tn]; rfl), ?_⟩⟩
    refine (?_ : some (List.map limb (List.take (B / 64 + 2 - 1) (List.replicate (B / 64 + 2) 0)) ++ [SV.int IntKind.u32 1] ++ List.map limb (List.drop (B / 64 + 2 - 1 + 1) (List.replicate (B / 64 + 2) 0))) = _)
    rw [l0, List.take_replicate, List.drop_replicate, Nat.min_eq_left (by omega), show B / 64 + 2 - (B / 64 + 2 - 1 + 1) = 0 by omega, show B / 64 + 2 - 1 = B / 64 + 1 by omega, List.map_append, List.replicate_zero, List.map_nil, List.append_nil]
    rfl
  rintro s ⟨i0, x, hx, lx, hxx, hax, i3⟩
  obtain ⟨r1, r2, r3, r4⟩ := round x hx (by omega)
  have hst := hstep x hx hax _ rfl
  have e1 : decide (cmpN ((x + a / x) / 2) x ≥ 0) = decide (x ≤ (x + a / x) / 2) := decide_eq_decide.2 (by unfold cmpN; split <;> (try split) <;> omega)
  have hstop := newton_stop (a := a) (x := x) hx
  have t1 := tr x (by omega)
  have l1 := lim_len_mono (Nat.div_le_self (x + a / x) 2)
  generalize (x + a / x) / 2 = y at *
  generalize x + a / x = u at *
  generalize a / x = q at *
  generalize cmpN y x = z at *
  rcases i3 with i3 | ⟨rfl, i3, o3⟩
  · by_cases hle : x ≤ y
    · rw [decide_eq_true hle] at e1
      obtain rfl := rtN_eq (hstop hle) hax
      repeat (first | (simp only [go_sem, Nat.reduceEqDiff, Nat.reduceAdd, Nat.reduceSub, Nat.reduceMul, Nat.reduceLeDiff, Nat.reduceLT, reduceIte, reduceCtorEq, Nat.succ_ne_zero, elemsC, Int.reduceToNat, Nat.reducePow, i0, i3, e1]) | (simp (disch := (first | omega | (simp only [AL, List.length_map]; omega))) only [AR, AL, ifT, ifF, take_all, List.length_cons, List.length_nil, Int.reduceToNat, Int.reducePow, Nat.reducePow, i0, i3, e1]) | (refine wk_intro (by kernel_rfl) ?_) | (refine vf_of (by first | exact r1 | exact r2 | exact r3 | exact r4 | exact t1) ?_))
    · rw [decide_eq_false hle] at e1
      obtain ⟨y1, y2, y3⟩ := hst hle
      repeat (first | (simp only [go_sem, Nat.reduceEqDiff, Nat.reduceAdd, Nat.reduceSub, Nat.reduceMul, Nat.reduceLeDiff, Nat.reduceLT, reduceIte, reduceCtorEq, Nat.succ_ne_zero, elemsC, Int.reduceToNat, Nat.reducePow, i0, i3, e1]) | (simp (disch := (first | omega | (simp only [AL, List.length_map]; omega))) only [AR, AL, ifT, ifF, take_all, List.length_cons, List.length_nil, Int.reduceToNat, Int.reducePow, Nat.reducePow, i0, i3, e1]) | (refine wk_intro (by kernel_rfl) ?_) | (refine vf_of (by first | exact r1 | exact r2 | exact r3 | exact r4) ?_))
      exact ⟨⟨y, y1, Nat.le_trans (lim_len_mono (Nat.le_of_lt y3)) lx, by omega, y2, .inl rfl⟩, by rw [vN_lim (by have := lim_len_mono (Nat.le_of_lt y3); omega), vN_lim (by omega)]; exact y3⟩
  · have hle : ¬ x ≤ y := fun g => by have := hstop g; have := ha0; omega
    rw [decide_eq_false hle] at e1
    obtain ⟨y1, y2, y3⟩ := hst hle
    have f1 : Go.Ev.Fn CX 174 [natV (lim a), .sl (B / 64 + 2) ((lim x).map limb)] (.tup [natV (lim q), natV (lim (a % x)), .bool true]) := by rw [← ll]; exact r1
    have f2 : Go.Ev.Fn CX 154 [.sl (B / 64 + 2) ((lim x).map limb), natV (lim q)] (natV (lim u)) := by rw [← ll]; exact r2
    have f4 : Go.Ev.Fn CX 205 [natV (lim y), .sl (B / 64 + 2) ((lim x).map limb)] (.int .i64 z) := by rw [← ll]; exact r4
    have hlm : ((lim x).map limb).length = B / 64 + 2 := by rw [List.length_map, ll]
    have htk : ((lim x).map limb).take (B / 64 + 2) = (lim x).map limb := List.take_of_length_le (by omega)
    generalize ((lim x).map limb) = cs at *
    repeat (first | (simp only [go_sem, Nat.reduceEqDiff, Nat.reduceAdd, Nat.reduceSub, Nat.reduceMul, Nat.reduceLeDiff, Nat.reduceLT, reduceIte, reduceCtorEq, Nat.succ_ne_zero, elemsC, Int.reduceToNat, Nat.reducePow, i0, i3, o3, htk, hlm, List.drop_zero, N0, Nat.mul_one, e1]) | (simp (disch := (first | omega | (simp only [AL, List.length_map]; omega))) only [AR, AL, ifT, ifF, take_all, List.length_cons, List.length_nil, Int.reduceToNat, Int.reducePow, Nat.reducePow, i0, i3, o3, htk, hlm, List.drop_zero, N0, Nat.mul_one, e1]) | (refine wk_intro (by kernel_rfl) ?_) | (refine vf_of (by first | exact f1 | exact f2 | exact r3 | exact f4) ?_))
    exact ⟨⟨y, y1, Nat.le_trans (lim_len_mono (Nat.le_of_lt y3)) lx, by omega, y2, .inl rfl⟩, by rw [vN_lim (by have := lim_len_mono (Nat.le_of_lt y3); omega)]; omega⟩
theorem root_whole {a : Nat} (h : (lim a).length ≤ 1000) : Go.Ev.Fn CX 226 [natV (lim a)] (.tup [natV (lim (rtN a)), .bool (decide (rtN a * rtN a = a))]) := by
  have r := root_Int h
  have l := lim_len_mono (rtN_self a)
  have m := nat_MulL (N := rtN a) (D := rtN a) (by omega) (by omega)
  have l2 := lim_len_mono (rtN_le a)
  have c := nat_CmpL (N := rtN a * rtN a) (D := a) (by omega) (by omega)
  have e : (cmpN (rtN a * rtN a) a == 0) = decide (rtN a * rtN a = a) := by
    rw [show (cmpN (rtN a * rtN a) a == 0) = decide (cmpN (rtN a * rtN a) a = 0) from by by_cases h : cmpN (rtN a * rtN a) a = 0 <;> simp [h]]
    exact decide_eq_decide.2 (by unfold cmpN; split <;> (try split) <;> omega)
  rw [← e]
  generalize cmpN (rtN a * rtN a) a = z at *
  generalize rtN a * rtN a = y at *
  generalize rtN a = x at *
  refine Go.Ev.Fn.intro (fn := Tryz.f226) (body := (Tryz.f226).body.get!) (by kernel_rfl) (by kernel_rfl) (by kernel_rfl) (fun _ => rfl) (Nat.le_of_ble_eq_true (by kernel_rfl)) ?_; unfold Tryz.f226; simp only [Option.get!_some]
  repeat (first | (simp only [go_sem, Nat.reduceEqDiff, Nat.reduceAdd, Nat.reduceSub, Nat.reduceMul, Nat.reduceLeDiff, Nat.reduceLT, reduceIte, reduceCtorEq, Nat.succ_ne_zero, elemsC, Int.reduceToNat, Nat.reducePow]) | (simp (disch := (first | omega | (simp only [AL, List.length_map]; omega))) only [AR, AL, ifT, ifF, take_all, List.length_cons, List.length_nil, Int.reduceToNat, Int.reducePow, Nat.reducePow]) | (refine wk_intro (by kernel_rfl) ?_) | (refine vf_of (by first | exact r | exact m | exact c) ?_))
theorem szR_nat {n d L : Nat} (hn : (lim n).length ≤ L) (hd : (lim d).length ≤ L) (hL : 1 ≤ L) : szR (mkRat (n : Int) d) L := szR_mk (s := false) hn hd hL
theorem natAbs_num {q : Rat} (h : 0 ≤ q) : (q.num.natAbs : Int) = q.num := Int.natAbs_of_nonneg (Rat.num_nonneg.2 h)
theorem mk_mulP (a : Int) {b : Nat} (hb : 0 < b) : mkRat a b * (b : Rat) = (a : Rat) := by
  rw [Rat.mkRat_eq_div]
  refine Rat.div_mul_cancel ?_
  have : (0 : Rat) < (b : Rat) := by exact_mod_cast hb
  grind
theorem num_den (q : Rat) : q * (q.den : Rat) = (q.num : Rat) := by
  have h := mk_mulP q.num q.den_pos
  rwa [Rat.mkRat_self] at h
theorem root_Square {v : SV} {q : Rat} {L : Nat} (hv : RatA v q L) (hq : 0 ≤ q) (hL1 : 1 ≤ L) (hL : L ≤ 1000) :
    Go.Ev.Fn CX 211 [v] (if rtN q.num.natAbs * rtN q.num.natAbs = q.num.natAbs ∧ rtN q.den * rtN q.den = q.den then .tup [rv (mkRat (rtN q.num.natAbs : Int) (rtN q.den)), .bool true] else .tup [rv 0, .bool false]) := by
  have n1 := rat_Norm hv (by omega)
  obtain ⟨z1, z2⟩ := szR_of hv hL1
  have w1 := root_whole (a := q.num.natAbs) (by omega)
  have w2 := root_whole (a := q.den) (by omega)
  have l1 := lim_len_mono (rtN_self q.num.natAbs)
  have l2 := lim_len_mono (rtN_self q.den)
  have o := rat_OfL (s := false) (n := rtN q.num.natAbs) (d := rtN q.den) (by omega) (by omega)
  rw [show sgn false (rtN q.num.natAbs) = (rtN q.num.natAbs : Int) from rfl] at o
  have r0 := rat_Int 0 (by omega)
  rw [show ((0 : Int) : Rat) = 0 from rfl] at r0
  have hs : decide (q.num < 0) = false := decide_eq_false (by have := Rat.num_nonneg.2 hq; omega)
  obtain ⟨s, n, d, rfl, -⟩ := hv
  generalize mkRat (rtN q.num.natAbs : Int) (rtN q.den) = r at *
  by_cases h1 : rtN q.num.natAbs * rtN q.num.natAbs = q.num.natAbs
  · rw [decide_eq_true h1] at w1
    by_cases h2 : rtN q.den * rtN q.den = q.den
    · rw [decide_eq_true h2] at w2
      rw [if_pos ⟨h1, h2⟩]
      clear h1 h2
      generalize rtN q.num.natAbs = x at *
      generalize rtN q.den = y at *
      refine Go.Ev.Fn.intro (fn := Tryz.f211) (body := (Tryz.f211).body.get!) (by kernel_rfl) (by kernel_rfl) (by kernel_rfl) (fun _ => rfl) (Nat.le_of_ble_eq_true (by kernel_rfl)) ?_; unfold Tryz.f211; simp only [Option.get!_some]
      repeat (first | (simp only [go_sem, Nat.reduceEqDiff, Nat.reduceAdd, Nat.reduceSub, Nat.reduceMul, Nat.reduceLeDiff, Nat.reduceLT, reduceIte, reduceCtorEq, Nat.succ_ne_zero, elemsC, Int.reduceToNat, Nat.reducePow, hs, Bool.not_true]) | (simp (disch := (first | omega | (simp only [AL, List.length_map]; omega))) only [AR, AL, ifT, ifF, take_all, List.length_cons, List.length_nil, Int.reduceToNat, Int.reducePow, Nat.reducePow, hs, Bool.not_true]) | (refine wk_intro (by kernel_rfl) ?_) | (refine vf_of (by first | exact n1 | exact w1 | exact w2 | exact o) ?_))
    · rw [decide_eq_false h2] at w2
      rw [if_neg (fun h => h2 h.2)]
      clear h1 h2
      generalize rtN q.num.natAbs = x at *
      generalize rtN q.den = y at *
      refine Go.Ev.Fn.intro (fn := Tryz.f211) (body := (Tryz.f211).body.get!) (by kernel_rfl) (by kernel_rfl) (by kernel_rfl) (fun _ => rfl) (Nat.le_of_ble_eq_true (by kernel_rfl)) ?_; unfold Tryz.f211; simp only [Option.get!_some]
      repeat (first | (simp only [go_sem, Nat.reduceEqDiff, Nat.reduceAdd, Nat.reduceSub, Nat.reduceMul, Nat.reduceLeDiff, Nat.reduceLT, reduceIte, reduceCtorEq, Nat.succ_ne_zero, elemsC, Int.reduceToNat, Nat.reducePow, hs, Bool.not_true, Bool.not_false]) | (simp (disch := (first | omega | (simp only [AL, List.length_map]; omega))) only [AR, AL, ifT, ifF, take_all, List.length_cons, List.length_nil, Int.reduceToNat, Int.reducePow, Nat.reducePow, hs, Bool.not_true, Bool.not_false]) | (refine wk_intro (by kernel_rfl) ?_) | (refine vf_of (by first | exact n1 | exact w1 | exact w2 | exact r0) ?_))
  · rw [decide_eq_false h1] at w1
    rw [if_neg (fun h => h1 h.1)]
    clear h1
    generalize rtN q.num.natAbs = x at *
    generalize hz : decide (rtN q.den * rtN q.den = q.den) = z at *
    generalize rtN q.den = y at *
    refine Go.Ev.Fn.intro (fn := Tryz.f211) (body := (Tryz.f211).body.get!) (by kernel_rfl) (by kernel_rfl) (by kernel_rfl) (fun _ => rfl) (Nat.le_of_ble_eq_true (by kernel_rfl)) ?_; unfold Tryz.f211; simp only [Option.get!_some]
    repeat (first | (simp only [go_sem, Nat.reduceEqDiff, Nat.reduceAdd, Nat.reduceSub, Nat.reduceMul, Nat.reduceLeDiff, Nat.reduceLT, reduceIte, reduceCtorEq, Nat.succ_ne_zero, elemsC, Int.reduceToNat, Nat.reducePow, hs, Bool.not_true, Bool.not_false]) | (simp (disch := (first | omega | (simp only [AL, List.length_map]; omega))) only [AR, AL, ifT, ifF, take_all, List.length_cons, List.length_nil, Int.reduceToNat, Int.reducePow, Nat.reducePow, hs, Bool.not_true, Bool.not_false]) | (refine wk_intro (by kernel_rfl) ?_) | (refine vf_of (by first | exact n1 | exact w1 | exact w2 | exact r0) ?_))
theorem nn_mul {a b : Nat} : ((a * b : Nat) : Rat) = (a : Rat) * (b : Rat) := by exact_mod_cast rfl
theorem nat_le_rat {a b : Nat} (h : a ≤ b) : (a : Rat) ≤ (b : Rat) := by exact_mod_cast h
theorem root_Sqrt {v : SV} {q : Rat} {L p : Nat} (hv : RatA v q L) (hq : 0 ≤ q) (hL1 : 1 ≤ L) (hL : L ≤ 300) (hp : p ≤ 512) :
    ∃ lo hi : Rat, Go.Ev.Fn CX 181 [v, .int .i64 (p : Int)] (.tup [ballR lo hi, .bool true]) ∧ 0 ≤ lo ∧ lo ≤ hi ∧ lo * lo ≤ q ∧ q ≤ hi * hi ∧ (hi - lo) * p2 p ≤ 1 ∧ szR lo (L + 40) ∧ szR hi (L + 40) := by
  have n1 := rat_Norm hv (by omega)
  obtain ⟨z1, z2⟩ := szR_of hv hL1
  have sq := root_Square (RatA_rv ⟨z1, z2⟩) hq hL1 (by omega)
  have l1 := lim_len_mono (rtN_self q.num.natAbs)
  have l2 := lim_len_mono (rtN_self q.den)
  have hs : decide (q.num < 0) = false := decide_eq_false (by have := Rat.num_nonneg.2 hq; omega)
  have e1 : (if (0 : Int) > (p : Int) then (0 : Int) else (p : Int)) = (p : Int) := if_neg (by omega)
  have e2 : (if (512 : Int) < (p : Int) then (512 : Int) else (p : Int)) = (p : Int) := if_neg (by omega)
  have qn := num_den q
  have qa : ((q.num.natAbs : Nat) : Rat) = (q.num : Rat) := by
    rw [← natAbs_num hq]; rfl
  have D := q.den_pos
  have DR : (0 : Rat) < (q.den : Rat) := by exact_mod_cast D
  have erv : rv q = ratV false (lim q.num.natAbs) (lim q.den) := by show ratV (decide (q.num < 0)) _ _ = _; rw [hs]
  rw [erv] at n1 sq
  by_cases h : rtN q.num.natAbs * rtN q.num.natAbs = q.num.natAbs ∧ rtN q.den * rtN q.den = q.den
  · rw [if_pos h] at sq
    have hd0 : 0 < rtN q.den := by
      rcases Nat.eq_zero_or_pos (rtN q.den) with e | e
      · have := h.2; rw [e] at this; omega
      · exact e
    have mm := mk_mulP (rtN q.num.natAbs : Int) hd0
    have YR : (0 : Rat) < (rtN q.den : Rat) := by exact_mod_cast hd0
    have x2 : ((rtN q.num.natAbs : Nat) : Rat) * ((rtN q.num.natAbs : Nat) : Rat) = (q.num : Rat) := by rw [← nn_mul, h.1, qa]
    have y2 : ((rtN q.den : Nat) : Rat) * ((rtN q.den : Nat) : Rat) = (q.den : Rat) := by rw [← nn_mul, h.2]
    have x0 := nat_nonneg (rtN q.num.natAbs)
    have mm' : mkRat (rtN q.num.natAbs : Int) (rtN q.den) * (rtN q.den : Rat) = ((rtN q.num.natAbs : Nat) : Rat) := mm
    have r0 : (0 : Rat) ≤ mkRat (rtN q.num.natAbs : Int) (rtN q.den) := le_by YR (by rw [mm', Rat.zero_mul]; exact x0)
    have rr : mkRat (rtN q.num.natAbs : Int) (rtN q.den) * mkRat (rtN q.num.natAbs : Int) (rtN q.den) = q := by
      generalize mkRat (rtN q.num.natAbs : Int) (rtN q.den) = r at *
      generalize ((rtN q.num.natAbs : Nat) : Rat) = X at *
      generalize ((rtN q.den : Nat) : Rat) = Y at *
      have e : (r * r - q) * (Y * Y) = 0 := by
        have e3 : (r * r - q) * (Y * Y) = (r * Y) * (r * Y) - q * (Y * Y) := by grind
        rw [e3, mm', x2, y2, qn, Rat.sub_self]
      rcases Rat.mul_eq_zero.1 e with g | g
      · grind
      · rw [y2] at g; grind
    have zz : szR (mkRat (rtN q.num.natAbs : Int) (rtN q.den)) L := szR_nat (by omega) (by omega) hL1
    have bo := ball_Of (RatA_rv zz) (by omega)
    refine ⟨_, _, ?_, r0, Rat.le_refl, by rw [rr]; exact Rat.le_refl, by rw [rr]; exact Rat.le_refl, by rw [Rat.sub_self, Rat.zero_mul]; decide, szR_mono zz (by omega), szR_mono zz (by omega)⟩
    clear rr r0 zz mm
    obtain ⟨s, n, d, rfl, -⟩ := hv
    generalize mkRat (rtN q.num.natAbs : Int) (rtN q.den) = r at *
    refine Go.Ev.Fn.intro (fn := Tryz.f181) (body := (Tryz.f181).body.get!) (by kernel_rfl) (by kernel_rfl) (by kernel_rfl) (fun _ => rfl) (Nat.le_of_ble_eq_true (by kernel_rfl)) ?_; unfold Tryz.f181; simp only [Option.get!_some]
    repeat (first | (simp only [go_sem, Nat.reduceEqDiff, Nat.reduceAdd, Nat.reduceSub, Nat.reduceMul, Nat.reduceLeDiff, Nat.reduceLT, reduceIte, reduceCtorEq, Nat.succ_ne_zero, elemsC, Int.reduceToNat, Nat.reducePow, hs, e1, e2]) | (simp (disch := (first | omega | (simp only [AL, List.length_map]; omega))) only [AR, AL, ifT, ifF, take_all, List.length_cons, List.length_nil, Int.reduceToNat, Int.reducePow, Nat.reducePow, hs, e1, e2]) | (refine wk_intro (by kernel_rfl) ?_) | (refine vp_draw (id := 8) (l := [32, 35, 37]) (by kernel_rfl) ?_) | (refine vf_of (by first | exact n1 | exact sq | exact bo) ?_))
  · rw [if_neg h] at sq
    clear h
    have s1 := nat_shl (N := q.num.natAbs) (m := 2 * p) (by omega) (by omega)
    have l3 := lim_len_shl (a := q.num.natAbs) (n := 2 * p)
    have dv := nat_DivL (N := q.num.natAbs * 2 ^ (2 * p)) (D := q.den) (by omega) (by omega) (by omega)
    have l4 := lim_len_mono (Nat.div_le_self (q.num.natAbs * 2 ^ (2 * p)) q.den)
    have rt := root_Int (a := q.num.natAbs * 2 ^ (2 * p) / q.den) (by omega)
    have l5 := lim_len_mono (rtN_self (q.num.natAbs * 2 ^ (2 * p) / q.den))
    have o1 := nat_Of 1 (by omega)
    have l1' := lim_len1
    have s2 := nat_shl (N := 1) (m := p) (by omega) (by omega)
    have l6 := lim_len_shl (a := 1) (n := p)
    rw [Nat.one_mul] at s2 l6
    have l7 := lim_len_add (a := rtN (q.num.natAbs * 2 ^ (2 * p) / q.den)) (b := 1) (L := L + 34) (by omega) (by omega)
    have ad := nat_AddL (N := rtN (q.num.natAbs * 2 ^ (2 * p) / q.den)) (D := 1) (by omega) (by omega)
    have f1 := rat_OfL (s := false) (n := rtN (q.num.natAbs * 2 ^ (2 * p) / q.den)) (d := 2 ^ p) (by omega) (by omega)
    have f2 := rat_OfL (s := false) (n := rtN (q.num.natAbs * 2 ^ (2 * p) / q.den) + 1) (d := 2 ^ p) (by omega) (by omega)
    have P : 0 < 2 ^ p := Nat.pow_pos (by omega)
    have g1 := rtN_le (q.num.natAbs * 2 ^ (2 * p) / q.den)
    have g2 := lt_rtN (q.num.natAbs * 2 ^ (2 * p) / q.den)
    have m1 := mk_mulP (rtN (q.num.natAbs * 2 ^ (2 * p) / q.den) : Int) P
    have m2 := mk_mulP ((rtN (q.num.natAbs * 2 ^ (2 * p) / q.den) + 1 : Nat) : Int) P
    refine ⟨_, _, ?_, ?_, ?_, ?_, ?_, ?_, szR_nat (n := rtN (q.num.natAbs * 2 ^ (2 * p) / q.den)) (d := 2 ^ p) (by omega) (by omega) (by omega), szR_nat (n := rtN (q.num.natAbs * 2 ^ (2 * p) / q.den) + 1) (d := 2 ^ p) (by omega) (by omega) (by omega)⟩
    · rw [show sgn false (rtN (q.num.natAbs * 2 ^ (2 * p) / q.den)) = (rtN (q.num.natAbs * 2 ^ (2 * p) / q.den) : Int) from rfl] at f1
      rw [show sgn false (rtN (q.num.natAbs * 2 ^ (2 * p) / q.den) + 1) = ((rtN (q.num.natAbs * 2 ^ (2 * p) / q.den) + 1 : Nat) : Int) from rfl] at f2
      clear g1 g2 m1 m2
      rw [show ((2 * p : Nat) : Int) = 2 * (p : Int) by omega] at s1
      obtain ⟨s, n, d, rfl, -⟩ := hv
      generalize mkRat (rtN (q.num.natAbs * 2 ^ (2 * p) / q.den) : Int) (2 ^ p) = r1 at *
      generalize mkRat ((rtN (q.num.natAbs * 2 ^ (2 * p) / q.den) + 1 : Nat) : Int) (2 ^ p) = r2 at *
      generalize rtN (q.num.natAbs * 2 ^ (2 * p) / q.den) + 1 = R1 at *
      generalize rtN (q.num.natAbs * 2 ^ (2 * p) / q.den) = R at *
      generalize q.num.natAbs * 2 ^ (2 * p) / q.den = u at *
      generalize q.num.natAbs * 2 ^ (2 * p) % q.den = u' at *
      generalize q.num.natAbs * 2 ^ (2 * p) = t at *
      generalize 2 ^ p = P' at *
      refine Go.Ev.Fn.intro (fn := Tryz.f181) (body := (Tryz.f181).body.get!) (by kernel_rfl) (by kernel_rfl) (by kernel_rfl) (fun _ => rfl) (Nat.le_of_ble_eq_true (by kernel_rfl)) ?_; unfold Tryz.f181; simp only [Option.get!_some]
      repeat (first | (simp only [go_sem, Nat.reduceEqDiff, Nat.reduceAdd, Nat.reduceSub, Nat.reduceMul, Nat.reduceLeDiff, Nat.reduceLT, reduceIte, reduceCtorEq, Nat.succ_ne_zero, elemsC, Int.reduceToNat, Nat.reducePow, hs, e1, e2]) | (simp (disch := (first | omega | (simp only [AL, List.length_map]; omega))) only [AR, AL, ifT, ifF, take_all, List.length_cons, List.length_nil, Int.reduceToNat, Int.reducePow, Nat.reducePow, hs, e1, e2]) | (refine wk_intro (by kernel_rfl) ?_) | (refine vp_draw (id := 8) (l := [32, 35, 37]) (by kernel_rfl) ?_) | (refine vf_of (by first | exact n1 | exact sq | exact s1 | exact dv | exact rt | exact o1 | exact s2 | exact f1 | exact ad | exact f2) ?_))
    all_goals
      have m1' : mkRat (rtN (q.num.natAbs * 2 ^ (2 * p) / q.den) : Int) (2 ^ p) * p2 p = ((rtN (q.num.natAbs * 2 ^ (2 * p) / q.den) : Nat) : Rat) := m1
      have m2' : mkRat ((rtN (q.num.natAbs * 2 ^ (2 * p) / q.den) + 1 : Nat) : Int) (2 ^ p) * p2 p = ((rtN (q.num.natAbs * 2 ^ (2 * p) / q.den) + 1 : Nat) : Rat) := m2
      have PR := p2_pos p
      have eS : ((rtN (q.num.natAbs * 2 ^ (2 * p) / q.den) + 1 : Nat) : Rat) = ((rtN (q.num.natAbs * 2 ^ (2 * p) / q.den) : Nat) : Rat) + 1 := by exact_mod_cast rfl
      have R0 := nat_nonneg (rtN (q.num.natAbs * 2 ^ (2 * p) / q.den))
    · exact le_by PR (by rw [Rat.zero_mul]; exact Rat.le_trans R0 (by rw [← m1']; exact Rat.le_refl))
    · refine le_by PR ?_
      show mkRat (rtN (q.num.natAbs * 2 ^ (2 * p) / q.den) : Int) (2 ^ p) * p2 p ≤ mkRat ((rtN (q.num.natAbs * 2 ^ (2 * p) / q.den) + 1 : Nat) : Int) (2 ^ p) * p2 p
      rw [m1', m2', eS]
      grind
    · show mkRat (rtN (q.num.natAbs * 2 ^ (2 * p) / q.den) : Int) (2 ^ p) * mkRat (rtN (q.num.natAbs * 2 ^ (2 * p) / q.den) : Int) (2 ^ p) ≤ q
      have a1 := nat_le_rat (Nat.mul_le_mul_right q.den g1)
      have a2 := nat_le_rat (Nat.div_mul_le_self (q.num.natAbs * 2 ^ (2 * p)) q.den)
      have a3 := Rat.le_trans a1 a2
      rw [show 2 ^ (2 * p) = 2 ^ p * 2 ^ p by rw [← Nat.pow_add]; congr 1; omega] at *
      rw [nn_mul, nn_mul, nn_mul, nn_mul, qa] at a3
      generalize mkRat (rtN (q.num.natAbs * (2 ^ p * 2 ^ p) / q.den) : Int) (2 ^ p) = r at *
      generalize ((rtN (q.num.natAbs * (2 ^ p * 2 ^ p) / q.den) : Nat) : Rat) = R at *
      have PP : (0 : Rat) < p2 p * p2 p * (q.den : Rat) := Rat.mul_pos (Rat.mul_pos PR PR) DR
      refine le_by PP ?_
      have e1 : r * r * (p2 p * p2 p * (q.den : Rat)) = (r * p2 p) * (r * p2 p) * (q.den : Rat) := by grind
      have e2 : q * (p2 p * p2 p * (q.den : Rat)) = q * (q.den : Rat) * (p2 p * p2 p) := by grind
      rw [e1, e2, m1', qn]
      exact a3
    · show q ≤ mkRat ((rtN (q.num.natAbs * 2 ^ (2 * p) / q.den) + 1 : Nat) : Int) (2 ^ p) * mkRat ((rtN (q.num.natAbs * 2 ^ (2 * p) / q.den) + 1 : Nat) : Int) (2 ^ p)
      have a1 := nat_le_rat (Nat.mul_le_mul_right q.den (show q.num.natAbs * 2 ^ (2 * p) / q.den + 1 ≤ _ from g2))
      have a2 := le_floor (a := q.num.natAbs * 2 ^ (2 * p)) (d := q.den) D
      rw [← nn_mul] at a2
      have a3 := Rat.le_trans a2 a1
      rw [show 2 ^ (2 * p) = 2 ^ p * 2 ^ p by rw [← Nat.pow_add]; congr 1; omega] at *
      rw [nn_mul, nn_mul, nn_mul, nn_mul, qa] at a3
      generalize mkRat ((rtN (q.num.natAbs * (2 ^ p * 2 ^ p) / q.den) + 1 : Nat) : Int) (2 ^ p) = r at *
      generalize ((rtN (q.num.natAbs * (2 ^ p * 2 ^ p) / q.den) + 1 : Nat) : Rat) = R at *
      have PP : (0 : Rat) < p2 p * p2 p * (q.den : Rat) := Rat.mul_pos (Rat.mul_pos PR PR) DR
      refine le_by PP ?_
      have e1 : r * r * (p2 p * p2 p * (q.den : Rat)) = (r * p2 p) * (r * p2 p) * (q.den : Rat) := by grind
      have e2 : q * (p2 p * p2 p * (q.den : Rat)) = q * (q.den : Rat) * (p2 p * p2 p) := by grind
      rw [e1, e2, m2', qn]
      exact a3
    · show (mkRat ((rtN (q.num.natAbs * 2 ^ (2 * p) / q.den) + 1 : Nat) : Int) (2 ^ p) - mkRat (rtN (q.num.natAbs * 2 ^ (2 * p) / q.den) : Int) (2 ^ p)) * p2 p ≤ 1
      have e : ∀ a b c : Rat, (a - b) * c = a * c - b * c := by intro a b c; grind
      rw [e, m1', m2', eS]
      grind
theorem root_Of {A B : Rat} {L p : Nat} (hA : 0 ≤ A) (hB : 0 ≤ B) (zA : szR A L) (zB : szR B L) (hL1 : 1 ≤ L) (hL : L ≤ 300) (hp : p ≤ 512) :
    ∃ lo lo' hi' hi : Rat, Go.Ev.Fn CX 147 [ballR A B, .int .i64 (p : Int)] (.tup [ballR lo hi, .bool true]) ∧ 0 ≤ lo ∧ lo ≤ lo' ∧ lo * lo ≤ A ∧ A ≤ lo' * lo' ∧ (lo' - lo) * p2 p ≤ 1 ∧
      0 ≤ hi' ∧ hi' ≤ hi ∧ hi' * hi' ≤ B ∧ B ≤ hi * hi ∧ (hi - hi') * p2 p ≤ 1 ∧ szR lo (L + 40) ∧ szR hi (L + 40) := by
  obtain ⟨a1, a2, f, g1, g2, g3, g4, g5, g6, g7⟩ := root_Sqrt (RatA_rv zA) hA hL1 hL hp
  obtain ⟨b1, b2, f', k1, k2, k3, k4, k5, k6, k7⟩ := root_Sqrt (RatA_rv zB) hB hL1 hL hp
  refine ⟨a1, a2, b1, b2, ?_, g1, g2, g3, g4, g5, k1, k2, k3, k4, k5, g6, k7⟩
  clear g1 g2 g3 g4 g5 k1 k2 k3 k4 k5
  refine Go.Ev.Fn.intro (fn := Tryz.f147) (body := (Tryz.f147).body.get!) (by kernel_rfl) (by kernel_rfl) (by kernel_rfl) (fun _ => rfl) (Nat.le_of_ble_eq_true (by kernel_rfl)) ?_; unfold Tryz.f147; simp only [Option.get!_some]
  repeat (first | (simp only [go_sem, Nat.reduceEqDiff, Nat.reduceAdd, Nat.reduceSub, Nat.reduceMul, Nat.reduceLeDiff, Nat.reduceLT, reduceIte, reduceCtorEq, Nat.succ_ne_zero, elemsC, Int.reduceToNat, Nat.reducePow, Bool.not_true]) | (simp (disch := (first | omega | (simp only [AL, List.length_map]; omega))) only [AR, AL, ifT, ifF, take_all, List.length_cons, List.length_nil, Int.reduceToNat, Int.reducePow, Nat.reducePow, Bool.not_true]) | (refine wk_intro (by kernel_rfl) ?_) | (refine vf_of (by first | exact f | exact f') ?_))
end Go.Proofs.YtemnjalaincijaaGreat

/- gam.Ball, in the evaluator. -/
namespace Go.Proofs.YtemnjalaincijaaGreat
set_option linter.unusedSimpArgs false
set_option linter.unusedVariables false
set_option maxRecDepth 8000
open Go.Ev
theorem mk_p2 (a p : Nat) : mkRat (a : Int) (2 ^ p) * p2 p = (a : Rat) := mk_mulP (a : Int) (Nat.pow_pos (by omega))
theorem many_pi {d : Nat} (h1 : 8 ≤ d) (h2 : d < 225) : ∃ m1 m2 : Rat, Go.Ev.Fn CX 149 [.int .i64 (d : Int)] (ballR m1 m2) ∧ m1 ≤ SQ * SQ ∧ SQ * SQ ≤ m2 ∧ (m2 - m1) * p2 d ≤ 1 ∧ 1 ≤ m1 ∧ szR m1 40 ∧ szR m2 40 := by
  obtain ⟨a, f, g1, g2⟩ := arcs_Pi h1 h2
  have P := p2_pos d
  have e1 := mk_p2 a d
  have e2 := mk_p2 (a + 1) d
  have k1 := sq_lo (by omega) g1
  have k2 := sq_hi (a := a + 1) (by omega) g2
  have k3 := sq_ge (by omega) g2
  have hA : a ≤ 2 ^ (d + 4) := by
    have x1 : rootPi * rootPi ≤ 2 ^ 804 := by decide +kernel
    have x2 : 2 ^ 804 = 2 ^ (d + 4) * 2 ^ (800 - d) := by rw [← Nat.pow_add]; congr 1; omega
    rw [x2] at x1
    exact Nat.le_of_mul_le_mul_right (Nat.le_trans g1 x1) (Nat.pow_pos (by omega))
  have hp : 2 ^ d ≤ 2 ^ (d + 4) := Nat.pow_le_pow_right (by omega) (by omega)
  have hB : a + 1 ≤ 2 ^ (d + 5) := by
    have : 2 ^ (d + 5) = 2 ^ (d + 4) * 2 := by rw [← Nat.pow_succ]
    have := Nat.pow_pos (a := 2) (n := d + 4) (by omega)
    omega
  have lp := lim_len_p2 hp (by omega)
  have la := lim_len_p2 hA (by omega)
  have lb := lim_len_p2 hB (by omega)
  refine ⟨_, _, f, le_by P (by rw [e1]; exact k1), le_by P (by rw [e2]; exact k2), ?_, le_by P (by rw [e1, Rat.one_mul]; exact n_le k3), szR_nat la lp (by omega), szR_nat lb lp (by omega)⟩
  have e : ∀ a b c : Rat, (a - b) * c = a * c - b * c := by intro a b c; grind
  rw [e, e1, e2]
  have : ((a + 1 : Nat) : Rat) = (a : Rat) + 1 := by exact_mod_cast rfl
  rw [this]
  grind
theorem many_root {m1 m2 : Rat} {d : Nat} (hd : d < 225) (h1 : m1 ≤ SQ * SQ) (h2 : SQ * SQ ≤ m2) (h3 : (m2 - m1) * p2 d ≤ 1) (h4 : 1 ≤ m1) (z1 : szR m1 40) (z2 : szR m2 40) :
    ∃ lo hi : Rat, Go.Ev.Fn CX 147 [ballR m1 m2, .int .i64 (d : Int)] (.tup [ballR lo hi, .bool true]) ∧ lo ≤ SQ ∧ SQ ≤ hi ∧ (hi - lo) * p2 d ≤ 3 ∧ szR lo 80 ∧ szR hi 80 := by
  have h5 : m1 ≤ m2 := Rat.le_trans h1 h2
  obtain ⟨lo, lo', hi', hi, f, g1, g2, g3, g4, g5, k1, k2, k3, k4, k5, y1, y2⟩ := root_Of (L := 40) (p := d) (A := m1) (B := m2) (by grind) (by grind) z1 z2 (by omega) (by omega) (by omega)
  refine ⟨lo, hi, f, sq_mono g1 SQ_nn (Rat.le_trans g3 h1), sq_mono SQ_nn (Rat.le_trans k1 k2) (Rat.le_trans h2 k4), root_width (p2_pos d) g2 g4 g5 g1 k1 k3 k5 h4 h3 h5, y1, y2⟩
section
variable {v : SV} {q : Rat} {roots pI : Int} {P : Nat}
end
end Go.Proofs.YtemnjalaincijaaGreat

/- bell: isFar, held, share, fall, row, area, in the evaluator. -/
namespace Go.Proofs.YtemnjalaincijaaGreat
set_option linter.unusedSimpArgs false
set_option linter.unusedVariables false
set_option maxRecDepth 8000
open Go.Ev
set_option linter.unusedVariables false
section
variable {v : SV} {z : Rat} {L P w : Nat} {pI : Int}
theorem bell_far (hv : RatA v z L) (hL1 : 1 ≤ L) (hL : L ≤ 100) (h : z < -8 ∨ 8 < z) : Go.Ev.Fn CX 91 [v] (.bool true) := by
  have zx := szR_of hv hL1
  have im := rat_Int (-8) (by omega)
  have ip := rat_Int 8 (by omega)
  have c1 := rat_Cmp hv (RatA_rv (int_szR (n := -8) (by omega))) hL1 (by omega) (by omega)
  have c2 := rat_Cmp hv (RatA_rv (int_szR (n := 8) (by omega))) hL1 (by omega) (by omega)
  by_cases g : z < -8
  · have e1 : decide (cmpR z ((-8 : Int) : Rat) < 0) = true := by rw [cmpR_lt]; exact decide_eq_true g
    clear h
    obtain ⟨s, n, d, rfl, -⟩ := hv
    generalize cmpR z ((-8 : Int) : Rat) = y1 at *
    refine Go.Ev.Fn.intro (fn := Tryz.f91) (body := (Tryz.f91).body.get!) (by kernel_rfl) (by kernel_rfl) (by kernel_rfl) (fun _ => rfl) (Nat.le_of_ble_eq_true (by kernel_rfl)) ?_; unfold Tryz.f91; simp only [Option.get!_some]
    repeat (first | (simp only [go_sem, Nat.reduceEqDiff, Nat.reduceAdd, Nat.reduceSub, Nat.reduceMul, Nat.reduceLeDiff, Nat.reduceLT, reduceIte, reduceCtorEq, Nat.succ_ne_zero, elemsC, Int.reduceToNat, Nat.reducePow, e1]) | (simp (disch := (first | omega | (simp only [AL, List.length_map]; omega))) only [AR, AL, ifT, ifF, take_all, List.length_cons, List.length_nil, Int.reduceToNat, Int.reducePow, Nat.reducePow, e1]) | (refine wk_intro (by kernel_rfl) ?_) | (refine vp_draw (id := 1) (l := []) (by kernel_rfl) ?_) | (refine vf_of (by first | exact im | exact c1) ?_))
  · have e1 : decide (cmpR z ((-8 : Int) : Rat) < 0) = false := by rw [cmpR_lt]; exact decide_eq_false g
    have e2 : decide (cmpR z ((8 : Int) : Rat) > 0) = true := by rw [cmpR_gt]; exact decide_eq_true (h.resolve_left g)
    clear h
    obtain ⟨s, n, d, rfl, -⟩ := hv
    generalize cmpR z ((-8 : Int) : Rat) = y1 at *
    generalize cmpR z ((8 : Int) : Rat) = y2 at *
    refine Go.Ev.Fn.intro (fn := Tryz.f91) (body := (Tryz.f91).body.get!) (by kernel_rfl) (by kernel_rfl) (by kernel_rfl) (fun _ => rfl) (Nat.le_of_ble_eq_true (by kernel_rfl)) ?_; unfold Tryz.f91; simp only [Option.get!_some]
    repeat (first | (simp only [go_sem, Nat.reduceEqDiff, Nat.reduceAdd, Nat.reduceSub, Nat.reduceMul, Nat.reduceLeDiff, Nat.reduceLT, reduceIte, reduceCtorEq, Nat.succ_ne_zero, elemsC, Int.reduceToNat, Nat.reducePow, e1, e2]) | (simp (disch := (first | omega | (simp only [AL, List.length_map]; omega))) only [AR, AL, ifT, ifF, take_all, List.length_cons, List.length_nil, Int.reduceToNat, Int.reducePow, Nat.reducePow, e1, e2]) | (refine wk_intro (by kernel_rfl) ?_) | (refine vp_draw (id := 1) (l := []) (by kernel_rfl) ?_) | (refine vf_of (by first | exact im | exact c1 | exact ip | exact c2) ?_))
theorem bell_nigh (hv : RatA v z L) (hL1 : 1 ≤ L) (hL : L ≤ 100) (h1 : -8 ≤ z) (h2 : z ≤ 8) : Go.Ev.Fn CX 91 [v] (.bool false) := by
  have zx := szR_of hv hL1
  have im := rat_Int (-8) (by omega)
  have ip := rat_Int 8 (by omega)
  have c1 := rat_Cmp hv (RatA_rv (int_szR (n := -8) (by omega))) hL1 (by omega) (by omega)
  have c2 := rat_Cmp hv (RatA_rv (int_szR (n := 8) (by omega))) hL1 (by omega) (by omega)
  have e1 : decide (cmpR z ((-8 : Int) : Rat) < 0) = false := by rw [cmpR_lt]; exact decide_eq_false (Rat.not_lt.2 h1)
  have e2 : decide (cmpR z ((8 : Int) : Rat) > 0) = false := by rw [cmpR_gt]; exact decide_eq_false (Rat.not_lt.2 h2)
  obtain ⟨s, n, d, rfl, -⟩ := hv
  generalize cmpR z ((-8 : Int) : Rat) = y1 at *
  generalize cmpR z ((8 : Int) : Rat) = y2 at *
  refine Go.Ev.Fn.intro (fn := Tryz.f91) (body := (Tryz.f91).body.get!) (by kernel_rfl) (by kernel_rfl) (by kernel_rfl) (fun _ => rfl) (Nat.le_of_ble_eq_true (by kernel_rfl)) ?_; unfold Tryz.f91; simp only [Option.get!_some]
  repeat (first | (simp only [go_sem, Nat.reduceEqDiff, Nat.reduceAdd, Nat.reduceSub, Nat.reduceMul, Nat.reduceLeDiff, Nat.reduceLT, reduceIte, reduceCtorEq, Nat.succ_ne_zero, elemsC, Int.reduceToNat, Nat.reducePow, e1, e2]) | (simp (disch := (first | omega | (simp only [AL, List.length_map]; omega))) only [AR, AL, ifT, ifF, take_all, List.length_cons, List.length_nil, Int.reduceToNat, Int.reducePow, Nat.reducePow, e1, e2]) | (refine wk_intro (by kernel_rfl) ?_) | (refine vp_draw (id := 1) (l := []) (by kernel_rfl) ?_) | (refine vf_of (by first | exact im | exact c1 | exact ip | exact c2) ?_))
theorem bell_held (hpI : (pI ≤ 0 ∧ P = 0) ∨ pI = (P : Int)) (hP : P ≤ 200) : Go.Ev.Fn CX 93 [.int .i64 pI] (.int .i64 (P : Int)) := by
  have e1 : (if (0 : Int) > pI then (0 : Int) else pI) = (P : Int) := by split <;> omega
  have e2 : (if (200 : Int) < (P : Int) then (200 : Int) else (P : Int)) = (P : Int) := if_neg (by omega)
  refine Go.Ev.Fn.intro (fn := Tryz.f93) (body := (Tryz.f93).body.get!) (by kernel_rfl) (by kernel_rfl) (by kernel_rfl) (fun _ => rfl) (Nat.le_of_ble_eq_true (by kernel_rfl)) ?_; unfold Tryz.f93; simp only [Option.get!_some]
  repeat (first | (simp only [go_sem, Nat.reduceEqDiff, Nat.reduceAdd, Nat.reduceSub, Nat.reduceMul, Nat.reduceLeDiff, Nat.reduceLT, reduceIte, reduceCtorEq, Nat.succ_ne_zero, elemsC, Int.reduceToNat, Nat.reducePow, e1, e2]) | (simp (disch := (first | omega | (simp only [AL, List.length_map]; omega))) only [AR, AL, ifT, ifF, take_all, List.length_cons, List.length_nil, Int.reduceToNat, Int.reducePow, Nat.reducePow, e1, e2]) | (refine wk_intro (by kernel_rfl) ?_))
theorem unN_mk (m w : Nat) : unN (mkRat (m : Int) (2 ^ w)) w = m := by
  have P : 0 < 2 ^ w := Nat.pow_pos (by omega)
  obtain ⟨q, hq⟩ : ∃ q, q = mkRat (m : Int) (2 ^ w) := ⟨_, rfl⟩
  have e := mk_p2 m w
  rw [← hq] at e ⊢
  have q0 : 0 ≤ q := by
    refine le_by (p2_pos w) ?_
    rw [e, Rat.zero_mul]; exact nat_nonneg m
  have nn : 0 ≤ q.num := Rat.num_nonneg.2 q0
  have d := Ex.denR q
  have k : ((q.num.natAbs * 2 ^ w : Nat) : Rat) = ((m * q.den : Nat) : Rat) := by
    rw [Ex.castmul, Ex.castmul, ← e]
    have : ((q.num.natAbs : Nat) : Rat) = (q.num : Rat) := by
      have h : ((q.num.natAbs : Nat) : Rat) = ((q.num.natAbs : Int) : Rat) := rfl
      rw [h, Int.natAbs_of_nonneg nn]
    rw [this, ← d]; grind
  have k2 := Ex.nat_inj k
  show q.num.natAbs * 2 ^ w / q.den = m
  rw [k2]
  exact Nat.mul_div_cancel _ q.den_pos
theorem exps_Exp0 {pI : Int} (hv : RatA v 0 L) (hL : L ≤ 100) : Go.Ev.Fn CX 58 [v, .int .i64 pI] (.tup [ballR 1 1, .bool true]) := by
  have n1 := rat_Norm hv (by omega)
  have im := rat_Int (-64) (by omega)
  have ip := rat_Int 64 (by omega)
  have i1 := rat_Int 1 (by omega)
  have z0 : szR 0 1 := szR_zero (by omega)
  have c1 := rat_Cmp (RatA_rv z0) (RatA_rv (int_szR (n := -64) (by omega))) (by omega) (by omega) (by omega)
  have c2 := rat_Cmp (RatA_rv z0) (RatA_rv (int_szR (n := 64) (by omega))) (by omega) (by omega) (by omega)
  have zr := rat_Zero (RatA_rv z0) (by omega) (by omega)
  rw [decide_eq_true rfl] at zr
  have o := ball_Of (RatA_rv (int_szR (n := 1) (by omega))) (by omega)
  rw [show ((1 : Int) : Rat) = 1 from rfl] at i1 o
  have e1 : decide (cmpR 0 ((-64 : Int) : Rat) < 0) = false := by rw [cmpR_lt]; decide +kernel
  have e2 : decide (cmpR 0 ((64 : Int) : Rat) > 0) = false := by rw [cmpR_gt]; decide +kernel
  obtain ⟨s, n, d, rfl, -⟩ := hv
  generalize cmpR 0 ((-64 : Int) : Rat) = y1 at *
  generalize cmpR 0 ((64 : Int) : Rat) = y2 at *
  refine Go.Ev.Fn.intro (fn := Tryz.f58) (body := (Tryz.f58).body.get!) (by kernel_rfl) (by kernel_rfl) (by kernel_rfl) (fun _ => rfl) (Nat.le_of_ble_eq_true (by kernel_rfl)) ?_; unfold Tryz.f58; simp only [Option.get!_some]
  repeat (first | (simp only [go_sem, Nat.reduceEqDiff, Nat.reduceAdd, Nat.reduceSub, Nat.reduceMul, Nat.reduceLeDiff, Nat.reduceLT, reduceIte, reduceCtorEq, Nat.succ_ne_zero, elemsC, Int.reduceToNat, Nat.reducePow, e1, e2]) | (simp (disch := (first | omega | (simp only [AL, List.length_map]; omega))) only [AR, AL, ifT, ifF, take_all, List.length_cons, List.length_nil, Int.reduceToNat, Int.reducePow, Nat.reducePow, e1, e2]) | (refine wk_intro (by kernel_rfl) ?_) | (refine vp_draw (id := 2) (l := []) (by kernel_rfl) ?_) | (refine vf_of (by first | exact n1 | exact im | exact c1 | exact ip | exact c2 | exact zr | exact i1 | exact o) ?_))
/-- e to the power of what is not above 0. -/
theorem bell_fall (hv : RatA v z L) (hL1 : 1 ≤ L) (hL : L ≤ 100) (h1 : -64 ≤ z) (h2 : z ≤ 0) (hd : z.den ≤ 2 ^ 240) (hw : w ≤ 512) :
    ∃ A B : Nat, A ≤ B ∧ B ≤ A + 2 ∧ B ≤ 2 ^ w + 2 ∧ Go.Ev.Fn CX 107 [v, .int .i64 (w : Int)] (spanV A B) ∧ ∃ s0, ∀ L, s0 ≤ L → Enc w A B (evX z L) := by
  have P := p2_pos w
  by_cases h0 : z = 0
  · subst h0
    have ex := exps_Exp0 (pI := (w : Int)) hv hL
    have fb := fix_Ball (w := w) (lo := 1) (hi := 1) (L := 1) ⟨lim_len_lt (by decide +kernel), lim_len_lt (by decide +kernel)⟩ ⟨lim_len_lt (by decide +kernel), lim_len_lt (by decide +kernel)⟩ (by omega) (by omega)
    have u : unN 1 w = 2 ^ w := by show (1 : Rat).num.natAbs * 2 ^ w / (1 : Rat).den = _; rw [show (1 : Rat).num.natAbs = 1 from rfl, show (1 : Rat).den = 1 from rfl, Nat.one_mul, Nat.div_one]
    rw [u] at fb
    refine ⟨2 ^ w, 2 ^ w + 1, by omega, by omega, by omega, ?_, 1, fun L hL => ?_⟩
    · obtain ⟨s, n, d, rfl, -⟩ := hv
      generalize 2 ^ w = y at *
      refine Go.Ev.Fn.intro (fn := Tryz.f107) (body := (Tryz.f107).body.get!) (by kernel_rfl) (by kernel_rfl) (by kernel_rfl) (fun _ => rfl) (Nat.le_of_ble_eq_true (by kernel_rfl)) ?_; unfold Tryz.f107; simp only [Option.get!_some]
      repeat (first | (simp only [go_sem, Nat.reduceEqDiff, Nat.reduceAdd, Nat.reduceSub, Nat.reduceMul, Nat.reduceLeDiff, Nat.reduceLT, reduceIte, reduceCtorEq, Nat.succ_ne_zero, elemsC, Int.reduceToNat, Nat.reducePow]) | (simp (disch := (first | omega | (simp only [AL, List.length_map]; omega))) only [AR, AL, ifT, ifF, take_all, List.length_cons, List.length_nil, Int.reduceToNat, Int.reducePow, Nat.reducePow]) | (refine wk_intro (by kernel_rfl) ?_) | (refine vf_of (by first | exact ex | exact fb) ?_))
    · have e : evX 0 L = 1 := by
        unfold evX
        rw [if_neg (by decide)]
        obtain ⟨k, rfl⟩ : ∃ k, L = k + 1 := ⟨L - 1, by omega⟩
        exact Ex.E_zero k
      rw [e]
      refine ⟨by rw [Rat.one_mul]; exact Rat.le_refl, ?_⟩
      rw [Rat.one_mul]
      exact_mod_cast Nat.le_succ (2 ^ w)
  · have hneg : z < 0 := by grind
    obtain ⟨m, lm, fn, s0, hs⟩ := exps_Exp (P := w) (pI := (w : Int)) hv hL1 hL h0 h1 (by grind) hd hw (.inr rfl)
    have hm : m ≤ 2 ^ w := by
      have e := (hs (s0 + 1) (by omega)).1
      have one := E_one (x := -z) (by grind) (L := s0 + 1) (by omega)
      have i : Ex.E (-z) (s0 + 1) * (1 / Ex.E (-z) (s0 + 1)) = 1 := Ex.mul_div _ 1 (by grind)
      have i0 : 0 ≤ 1 / Ex.E (-z) (s0 + 1) := Ex.div_nn (by decide) (by grind)
      have le1 : 1 / Ex.E (-z) (s0 + 1) ≤ 1 := by
        have := Rat.mul_le_mul_of_nonneg_right one i0
        rw [i, Rat.one_mul] at this; exact this
      unfold evX at e
      rw [if_pos hneg] at e
      have k := Rat.le_trans e (Rat.mul_le_mul_of_nonneg_right le1 (Rat.le_of_lt P))
      rw [Rat.one_mul] at k
      exact_mod_cast k
    have lp := lim_len_pw (n := 2 ^ w) (w := w + 1) (by rw [Nat.pow_succ]; have : 0 < 2 ^ w := Nat.pow_pos (by omega); omega)
    have lm2 := lim_len_pw (n := m + 1) (w := w + 2) (by rw [Nat.pow_add]; have : 0 < 2 ^ w := Nat.pow_pos (by omega); omega)
    have lm1 : (lim m).length ≤ (lim (m + 1)).length := lim_len_mono (Nat.le_succ m)
    have z1 : szR (mkRat (m : Int) (2 ^ w)) 20 := szR_nat (by omega) (by omega) (by omega)
    have z2 : szR (mkRat ((m + 1 : Nat) : Int) (2 ^ w)) 20 := szR_nat (by omega) (by omega) (by omega)
    have fb := fix_Ball (w := w) z1 z2 (by omega) (by omega)
    rw [unN_mk, unN_mk] at fb
    refine ⟨m, m + 2, by omega, by omega, by omega, ?_, s0, fun L hL => ?_⟩
    · clear hs z1 z2 hd h1 h2 h0 hneg
      obtain ⟨s, n, d, rfl, -⟩ := hv
      generalize mkRat (m : Int) (2 ^ w) = q1 at *
      generalize mkRat ((m + 1 : Nat) : Int) (2 ^ w) = q2 at *
      refine Go.Ev.Fn.intro (fn := Tryz.f107) (body := (Tryz.f107).body.get!) (by kernel_rfl) (by kernel_rfl) (by kernel_rfl) (fun _ => rfl) (Nat.le_of_ble_eq_true (by kernel_rfl)) ?_; unfold Tryz.f107; simp only [Option.get!_some]
      repeat (first | (simp only [go_sem, Nat.reduceEqDiff, Nat.reduceAdd, Nat.reduceSub, Nat.reduceMul, Nat.reduceLeDiff, Nat.reduceLT, reduceIte, reduceCtorEq, Nat.succ_ne_zero, elemsC, Int.reduceToNat, Nat.reducePow]) | (simp (disch := (first | omega | (simp only [AL, List.length_map]; omega))) only [AR, AL, ifT, ifF, take_all, List.length_cons, List.length_nil, Int.reduceToNat, Int.reducePow, Nat.reducePow]) | (refine wk_intro (by kernel_rfl) ?_) | (refine vf_of (by first | exact fn | exact fb) ?_))
    · exact enc_wider (n := 1) (hs L hL)
theorem unN_lt {q : Rat} (h0 : 0 ≤ q) (w : Nat) : q * p2 w < ((unN q w + 1 : Nat) : Rat) := by
  have d := Ex.denR q
  have dR : (0 : Rat) < (q.den : Rat) := by exact_mod_cast q.den_pos
  have nn : 0 ≤ q.num := Rat.num_nonneg.2 h0
  have k := Nat.lt_mul_div_succ (q.num.natAbs * 2 ^ w) q.den_pos
  have k2 := Ex.castlt k
  rw [Ex.castmul, Ex.castmul] at k2
  have e : ((q.num.natAbs : Nat) : Rat) = (q.num : Rat) := by
    have h : ((q.num.natAbs : Nat) : Rat) = ((q.num.natAbs : Int) : Rat) := rfl
    rw [h, Int.natAbs_of_nonneg nn]
  rw [e, ← d] at k2
  refine Rat.not_le.1 fun hc => ?_
  have m := Rat.mul_le_mul_of_nonneg_right hc (Rat.le_of_lt dR)
  have k3 : q * (q.den : Rat) * p2 w < (q.den : Rat) * ((unN q w + 1 : Nat) : Rat) := k2
  grind
theorem unN_ge {q : Rat} (h : 1 ≤ 2 * q) (hw : 1 ≤ w) : 2 ^ (w - 1) ≤ unN q w := by
  have d := Ex.denR q
  have dR : (0 : Rat) < (q.den : Rat) := by exact_mod_cast q.den_pos
  have nn : 0 ≤ q.num := Rat.num_nonneg.2 (by grind)
  have m := Rat.mul_le_mul_of_nonneg_right h (Rat.le_of_lt dR)
  rw [Rat.one_mul, Rat.mul_assoc, d] at m
  have k : (q.den : Int) ≤ 2 * q.num := by
    have : ((q.den : Int) : Rat) ≤ ((2 * q.num : Int) : Rat) := by rw [Rat.intCast_mul]; exact m
    exact Rat.intCast_le_intCast.1 this
  refine (Nat.le_div_iff_mul_le q.den_pos).2 ?_
  have e1 : 2 ^ w = 2 ^ (w - 1) * 2 := by rw [← Nat.pow_succ]; congr 1; omega
  have k2 : q.den ≤ 2 * q.num.natAbs := by omega
  have m2 := Nat.mul_le_mul_left (2 ^ (w - 1)) k2
  have e2 : q.num.natAbs * 2 ^ w = 2 ^ (w - 1) * (2 * q.num.natAbs) := by rw [e1, Nat.mul_comm, Nat.mul_assoc]
  rw [e2]; exact m2
theorem unN_mono {p q : Rat} (h0 : 0 ≤ p) (h : p ≤ q) (w : Nat) : unN p w ≤ unN q w := by
  have a := (unN_le h0 w).1
  have b := (unN_lt (show 0 ≤ q by grind) w)
  have m := Rat.mul_le_mul_of_nonneg_right h (Rat.le_of_lt (p2_pos w))
  have k : ((unN p w : Nat) : Rat) < ((unN q w + 1 : Nat) : Rat) := by grind
  have k2 : unN p w < unN q w + 1 := by exact_mod_cast k
  omega
theorem lohi1 {c lo hi : Rat} (hc : 0 ≤ c) (g : lo ≤ hi) : loL (c * lo) [c * hi, c * lo, c * hi] = c * lo ∧ hiL (c * lo) [c * hi, c * lo, c * hi] = c * hi := by
  have g2 := Rat.mul_le_mul_of_nonneg_left g hc
  generalize c * lo = u at *
  generalize c * hi = v at *
  constructor
  · simp only [loL, List.foldl_cons, List.foldl_nil, mnR]
    repeat (first | rw [if_neg (by grind)] | rfl)
  · simp only [hiL, List.foldl_cons, List.foldl_nil, mxR]
    by_cases e : u < v
    · rw [if_pos e, if_neg (show ¬ v < u by grind), if_neg (show ¬ v < v by grind)]
    · rw [if_neg e, if_neg (show ¬ u < u by grind), if_neg e]; grind
/-- 1 by the root of so many times pi. -/
theorem bell_share {many : Nat} (hm : 1 ≤ many) (hm2 : many ≤ 2) (hw0 : 8 ≤ w) (hw : w < 225) :
    ∃ A B : Nat, ∃ r1 r2 : Rat, Go.Ev.Fn CX 95 [.int .i64 (many : Int), .int .i64 (w : Int)] (spanV A B) ∧ A ≤ B ∧ B ≤ 2 ^ (w + 2) ∧ 0 < r1 ∧ r1 ≤ r2 ∧ r1 * r1 ≤ (many : Rat) * (SQ * SQ) ∧ (many : Rat) * (SQ * SQ) ≤ r2 * r2 ∧ ∀ r, r1 ≤ r → r ≤ r2 → Enc w A B (1 / r) := by
  obtain ⟨m1, m2, fp, h1, h2, h3, h4, z1, z2⟩ := many_pi hw0 hw
  have ri := rat_Int (many : Int) (by omega)
  have zi := int_szR (n := (many : Int)) (by omega)
  have o := ball_Of (RatA_rv zi) (by omega)
  have c1 : (1 : Rat) ≤ ((many : Int) : Rat) := by
    have : ((1 : Nat) : Rat) ≤ (many : Rat) := Ex.castle hm
    exact this
  have g12 : m1 ≤ m2 := Rat.le_trans h1 h2
  have bm := ball_Mul (L := 80) (szR_mono zi (by omega)) (szR_mono zi (by omega)) (szR_mono z1 (by omega)) (szR_mono z2 (by omega)) (by omega) (by omega)
  rw [(lohi1 (show (0 : Rat) ≤ ((many : Int) : Rat) by grind) g12).1, (lohi1 (show (0 : Rat) ≤ ((many : Int) : Rat) by grind) g12).2] at bm
  have k1 : (1 : Rat) ≤ ((many : Int) : Rat) * m1 := by
    have := Rat.mul_le_mul_of_nonneg_left h4 (show (0 : Rat) ≤ ((many : Int) : Rat) by grind)
    grind
  have k2 := Rat.mul_le_mul_of_nonneg_left g12 (show (0 : Rat) ≤ ((many : Int) : Rat) by grind)
  have k3 := Rat.mul_le_mul_of_nonneg_left h1 (show (0 : Rat) ≤ ((many : Int) : Rat) by grind)
  have k4 := Rat.mul_le_mul_of_nonneg_left h2 (show (0 : Rat) ≤ ((many : Int) : Rat) by grind)
  obtain ⟨lo, lo', hi', hi, fr, r1, r2, r3, r4, r5, r6, r7, r8, r9, r10, y1, y2⟩ := root_Of (L := 82) (p := w) (A := ((many : Int) : Rat) * m1) (B := ((many : Int) : Rat) * m2) (by grind) (by grind) (szR_mono (szR_mul zi z1 (by omega)) (by omega)) (szR_mono (szR_mul zi z2 (by omega)) (by omega)) (by omega) (by omega) (by omega)
  have fb := fix_Ball (w := w) (szR_mono y1 (show _ ≤ 200 by omega)) (szR_mono y2 (show _ ≤ 200 by omega)) (by omega) (by omega)
  have W := p2_pos w
  -- the lower end is at least a half
  have lo1 : 1 ≤ 2 * lo := by
    have l1 : 1 ≤ lo' := by
      refine Rat.not_lt.1 fun h => ?_
      have a := Rat.mul_le_mul_of_nonneg_right (Rat.le_of_lt h) (show 0 ≤ lo' by grind)
      have b : lo' * lo' < 1 := by grind
      grind
    have w2 : (2 : Rat) ≤ p2 w := Ex.castle (show 2 ≤ 2 ^ w from Nat.le_trans (by decide) (Nat.pow_le_pow_right (n := 2) (by omega) (show 1 ≤ w by omega)))
    refine Rat.not_lt.1 fun h => ?_
    have a := Rat.mul_le_mul_of_nonneg_left w2 (show 0 ≤ lo' - lo by grind)
    grind
  have lh : lo ≤ hi := by
    have a : lo * lo ≤ hi * hi := Rat.le_trans r3 (Rat.le_trans k2 r9)
    exact Ex.le_by (c := 1) (by decide) (by rw [Rat.mul_one, Rat.mul_one]; exact sq_mono r1 (by grind) a)
  have lu := unN_ge lo1 (show 1 ≤ w by omega)
  have P1 : 0 < 2 ^ (w - 1) := Nat.pow_pos (by omega)
  have e1 : 2 ^ w = 2 ^ (w - 1) * 2 := by rw [← Nat.pow_succ]; congr 1; omega
  have en := fun r (a : lo ≤ r) (b : r ≤ hi) => enc_inv (w := w) (show 0 < unN lo w by omega) (ball_enc r1 a b w)
  have uB : unN lo w < unN hi w + 1 := by
    have a := (ball_enc r1 Rat.le_refl lh w)
    have b := a.1
    have c := a.2
    have d := Rat.le_trans b c
    have d' : unN lo w ≤ unN hi w + 1 := by exact_mod_cast d
    by_cases e : unN lo w = unN hi w + 1
    · exact absurd (unN_mono r1 lh w) (by omega)
    · omega
  have hi8 : unN hi w + 1 ≤ 2 ^ (w + 8) := by
    have sq4 : SQ * SQ ≤ 4 := by decide +kernel
    have p1 : (1 : Rat) ≤ p2 w := Ex.castle (show 1 ≤ 2 ^ w by omega)
    have m2le : m2 ≤ 5 := by
      refine Rat.not_lt.1 fun h => ?_
      have := Rat.mul_le_mul_of_nonneg_left p1 (show 0 ≤ m2 - m1 by grind)
      grind
    have mm : ((many : Int) : Rat) ≤ 2 := by
      have : ((many : Nat) : Rat) ≤ ((2 : Nat) : Rat) := Ex.castle hm2
      exact this
    have q10 : ((many : Int) : Rat) * m2 ≤ 10 := by
      have a := Rat.mul_le_mul_of_nonneg_right mm (show 0 ≤ m2 by grind)
      grind
    have h4' : hi' ≤ 4 := by
      refine Rat.not_lt.1 fun h => ?_
      have := Rat.mul_le_mul_of_nonneg_right (Rat.le_of_lt h) (show 0 ≤ hi' by grind)
      grind
    have h5 : hi ≤ 5 := by
      refine Rat.not_lt.1 fun h => ?_
      have := Rat.mul_le_mul_of_nonneg_left p1 (show 0 ≤ hi - hi' by grind)
      grind
    have u := (unN_le (show 0 ≤ hi by grind) w).1
    have m5 := Rat.mul_le_mul_of_nonneg_right h5 (Rat.le_of_lt W)
    have t : ((unN hi w : Nat) : Rat) ≤ ((5 * 2 ^ w : Nat) : Rat) := by
      rw [Ex.castmul]; exact Rat.le_trans u m5
    have t2 : unN hi w ≤ 5 * 2 ^ w := by exact_mod_cast t
    have e8 : 2 ^ (w + 8) = 2 ^ w * 256 := Nat.pow_add _ _ _
    omega
  have lA := lim_len_pw (n := unN lo w) (w := w + 9) (by rw [Nat.pow_succ]; omega)
  have lB := lim_len_pw (n := unN hi w + 1) (w := w + 9) (by rw [Nat.pow_succ]; omega)
  have iv := fix_Inverse (a := unN lo w) (b := unN hi w + 1) (w := w) (by omega) (by omega) (by omega) (by omega) (by omega)
  refine ⟨2 ^ (2 * w) / (unN hi w + 1), 2 ^ (2 * w) / unN lo w + 1, lo, hi, ?_, ?_, ?_, by grind, lh, Rat.le_trans r3 k3, Rat.le_trans k4 r9, fun r a b => (en r a b).1⟩
  · clear en k1 k2 k3 k4 r1 r2 r3 r4 r5 r6 r7 r8 r9 r10 lo1 lh h1 h2 h3 h4 g12 c1
    generalize 2 ^ (2 * w) / (unN hi w + 1) = A at *
    generalize 2 ^ (2 * w) / unN lo w + 1 = B at *
    generalize ((many : Int) : Rat) * m1 = q1 at *
    generalize ((many : Int) : Rat) * m2 = q2 at *
    generalize unN hi w + 1 = u2 at *
    generalize unN lo w = u1 at *
    refine Go.Ev.Fn.intro (fn := Tryz.f95) (body := (Tryz.f95).body.get!) (by kernel_rfl) (by kernel_rfl) (by kernel_rfl) (fun _ => rfl) (Nat.le_of_ble_eq_true (by kernel_rfl)) ?_; unfold Tryz.f95; simp only [Option.get!_some]
    repeat (first | (simp only [go_sem, Nat.reduceEqDiff, Nat.reduceAdd, Nat.reduceSub, Nat.reduceMul, Nat.reduceLeDiff, Nat.reduceLT, reduceIte, reduceCtorEq, Nat.succ_ne_zero, elemsC, Int.reduceToNat, Nat.reducePow]) | (simp (disch := (first | omega | (simp only [AL, List.length_map]; omega))) only [AR, AL, ifT, ifF, take_all, List.length_cons, List.length_nil, Int.reduceToNat, Int.reducePow, Nat.reducePow]) | (refine wk_intro (by kernel_rfl) ?_) | (refine vf_of (by first | exact ri | exact o | exact fp | exact bm | exact fr | exact fb | exact iv) ?_))
  · exact Nat.le_succ_of_le (Nat.div_le_div_left (by omega) (by omega))
  · have : 2 ^ (2 * w) / unN lo w ≤ 2 ^ (w + 1) := by
      refine (Nat.div_le_iff_le_mul (by omega)).2 ?_
      have e2 : 2 ^ (2 * w) = 2 ^ (w + 1) * 2 ^ (w - 1) := by rw [← Nat.pow_add]; congr 1; omega
      have m := Nat.mul_le_mul_left (2 ^ (w + 1)) lu
      omega
    have e3 : 2 ^ (w + 2) = 2 ^ (w + 1) * 2 := Nat.pow_succ _ _
    have : 0 < 2 ^ (w + 1) := Nat.pow_pos (by omega)
    omega
theorem fix_RatS {s : Bool} {n d : Nat} (hd : 0 < d) (ln : (lim n).length ≤ 1000) (ld : (lim d).length ≤ 1000) (hw : w ≤ 10000) : Go.Ev.Fn CX 128 [ratV s (lim n) (lim d), .int .i64 (w : Int)] (spanV (n * 2 ^ w / d) (n * 2 ^ w / d + 1)) := by
  have of := fix_Of (n := n) (d := d) (w := w) (by omega) (by omega) (by omega) (by omega)
  generalize n * 2 ^ w / d = x at *
  refine Go.Ev.Fn.intro (fn := Tryz.f128) (body := (Tryz.f128).body.get!) (by kernel_rfl) (by kernel_rfl) (by kernel_rfl) (fun _ => rfl) (Nat.le_of_ble_eq_true (by kernel_rfl)) ?_; unfold Tryz.f128; simp only [Option.get!_some]
  repeat (first | (simp only [go_sem, Nat.reduceEqDiff, Nat.reduceAdd, Nat.reduceSub, Nat.reduceMul, Nat.reduceLeDiff, Nat.reduceLT, reduceIte, reduceCtorEq, Nat.succ_ne_zero, elemsC, Int.reduceToNat, Nat.reducePow]) | (simp (disch := (first | omega | (simp only [AL, List.length_map]; omega))) only [AR, AL, ifT, ifF, take_all, List.length_cons, List.length_nil, Int.reduceToNat, Int.reducePow, Nat.reducePow]) | (refine wk_intro (by kernel_rfl) ?_) | (refine vf_of (by first | exact of) ?_))
/-- The bell's row, of a number and of its opposite. -/
theorem bell_row {n d many : Nat} (hd : 0 < d) (hn : n ≤ 8 * d) (hm : 1 ≤ many) (hm2 : many ≤ 2) (ln : (lim n).length ≤ 100) (ld : (lim d).length ≤ 100) (hw0 : 8 ≤ w) (hw : w ≤ 1000) :
    ∃ A B : Nat, A ≤ B ∧ B < 2 ^ (w + 10014) ∧ ∀ s : Bool, Go.Ev.Fn CX 146 [ratV s (lim n) (lim d), .int .u64 (many : Int), .int .i64 (w : Int)] (spanV A B) := by
  have fr := fun s => fix_RatS (s := s) (n := n) (d := d) (w := w) hd (by omega) (by omega) (by omega)
  have P : 2 ^ 8 ≤ 2 ^ w := Nat.pow_le_pow_right (by omega) hw0
  have Tle : n * 2 ^ w / d ≤ 2 ^ w * 8 := by
    refine (Nat.div_le_iff_le_mul hd).2 ?_
    have m := Nat.mul_le_mul_right (2 ^ w) hn
    have e : 8 * d * 2 ^ w = 2 ^ w * 8 * d := by rw [Nat.mul_comm, ← Nat.mul_assoc]
    omega
  generalize n * 2 ^ w / d = T at *
  have e9 : 2 ^ (w + 9) = 2 ^ w * 512 := Nat.pow_add _ _ _
  have e8 : 2 ^ (w + 8) = 2 ^ w * 256 := Nat.pow_add _ _ _
  have e10 : 2 ^ (w + 10) = 2 ^ w * 1024 := Nat.pow_add _ _ _
  have lT := lim_len_pw (n := T) (w := w + 9) (by omega)
  have lT1 := lim_len_pw (n := T + 1) (w := w + 9) (by omega)
  have sq := fix_Mul (a := T) (b := T + 1) (c := T) (d := T + 1) (w := w) (by omega) (by omega) (by omega) (by omega) (by omega) (by omega)
  have S2 : (T + 1) * (T + 1) / 2 ^ w ≤ 2 ^ w * 81 := by
    refine (Nat.div_le_iff_le_mul (by omega)).2 ?_
    have m := Nat.mul_le_mul (show T + 1 ≤ 2 ^ w * 9 by omega) (show T + 1 ≤ 2 ^ w * 9 by omega)
    have e : 2 ^ w * 9 * (2 ^ w * 9) = 2 ^ w * 81 * 2 ^ w := by generalize 2 ^ w = y; grind
    omega
  have S12 : T * T / 2 ^ w ≤ (T + 1) * (T + 1) / 2 ^ w := Nat.div_le_div_right (Nat.mul_le_mul (by omega) (by omega))
  generalize T * T / 2 ^ w = s1 at *
  generalize (T + 1) * (T + 1) / 2 ^ w = s2 at *
  have om := nat_Of many (by omega)
  have o1 := fix_One
  have l1 := lim_len1
  have lm : (lim many).length ≤ 2 := lim_len_lt (by omega)
  have ls1 := lim_len_pw (n := s1) (w := w + 8) (by omega)
  have ls2 := lim_len_pw (n := s2 + 1) (w := w + 8) (by omega)
  have ti := fix_Times (a := s1) (b := s2 + 1) (n := many) (d := 1) (by omega) (by omega) (by omega) (by omega) (by omega)
  have q1 : s1 * many / 1 ≤ (s2 + 1) * many / 1 + 1 := Nat.le_succ_of_le (Nat.div_le_div_right (Nat.mul_le_mul_right _ (by omega)))
  have q2 : (s2 + 1) * many / 1 + 1 ≤ 2 ^ (w + 8) := by
    rw [Nat.div_one]
    have := Nat.mul_le_mul_left (s2 + 1) hm2
    omega
  generalize s1 * many / 1 = Q1 at *
  generalize (s2 + 1) * many / 1 + 1 = Q2 at *
  have lQ1 := lim_len_pw (n := Q1) (w := w + 9) (by omega)
  have lQ2 := lim_len_pw (n := Q2) (w := w + 9) (by omega)
  have i0 := tInv_0 (w := w) (k0 := 3) (t1 := T) (t2 := T + 1) (a1 := T) (a2 := T + 1) (by omega) (by omega) (by omega) (by omega)
  obtain ⟨F, hF⟩ : ∃ F : Nat, F = 5200 := ⟨_, rfl⟩
  obtain ⟨A, B, hr, hAB, hB⟩ := tRow_end (w := w) (Y1 := Q1) (Y2 := Q2) (M := many * 128) (k0 := 3) q2 q1 (by omega) (by omega) (by omega) 1023 F 0 3 T (T + 1) T (T + 1) i0 (by omega) (by omega) (by omega)
  refine ⟨A, B, hAB, hB, fun s => ?_⟩
  have lens := fun (i k t1 t2 a1 a2 : Nat) (hi : i ≤ F) (h : tInv w 3 i k t1 t2 a1 a2) => (show (lim t1).length ≤ 1000 ∧ (lim t2).length ≤ 1000 ∧ (lim a1).length ≤ 1000 ∧ (lim a2).length ≤ 1000 from by
    obtain ⟨h1, h2, h3, h4, h5⟩ := h
    have a := lim_len_pw h4
    have b := lim_len_mono h2
    have up : (i + 2) * 2 ^ (w + 10000) ≤ 2 ^ (w + 10014) := by
      have e : 2 ^ (w + 10014) = 16384 * 2 ^ (w + 10000) := by rw [show w + 10014 = 14 + (w + 10000) by omega, Nat.pow_add 2 14]
      rw [e]; exact Nat.mul_le_mul_right _ (by omega)
    have c := lim_len_pw (n := a2) (w := w + 10014) (by omega)
    have d := lim_len_mono h3
    exact ⟨by omega, by omega, by omega, by omega⟩)
  have step := fun (i k t1 t2 a1 a2 : Nat) (h : tInv w 3 i k t1 t2 a1 a2) => tInv_step (Y1 := Q1) (Y2 := Q2) q2 q1 (by omega) h
  have frs := fr s
  have shl : (many : Int) * 2 ^ 7 = ((many * 128 : Nat) : Int) := by omega
  clear fr ls1 ls2 S2 S12 Tle e8 e9 e10 hB hAB
  refine Go.Ev.Fn.intro (fn := Tryz.f146) (body := (Tryz.f146).body.get!) (by kernel_rfl) (by kernel_rfl) (by kernel_rfl) (fun _ => rfl) (Nat.le_of_ble_eq_true (by kernel_rfl)) ?_; unfold Tryz.f146; simp only [Option.get!_some]
  repeat (first | (simp only [go_sem, Nat.reduceEqDiff, Nat.reduceAdd, Nat.reduceSub, Nat.reduceMul, Nat.reduceLeDiff, Nat.reduceLT, reduceIte, reduceCtorEq, Nat.succ_ne_zero, elemsC, Int.reduceToNat, Nat.reducePow]) | (simp (disch := (first | omega | (simp only [AL, List.length_map]; omega))) only [AR, AL, ifT, ifF, take_all, List.length_cons, List.length_nil, Int.reduceToNat, Int.reducePow, Nat.reducePow]) | (refine wk_intro (by kernel_rfl) ?_) | (refine vf_of (by first | exact frs | exact sq | exact om | exact o1 | exact ti) ?_))
  refine vp_loop_inv (fun s' => s'.tmp 1 = .sv (.int .u64 (many : Int)) ∧ s'.tmp 2 = .sv (.int .i64 (w : Int)) ∧ s'.tmp 6 = .ptr 6 0 0 ∧ s'.obj 6 0 = some [.sl 0 [], .sl 0 []] ∧ s'.tmp 7 = .ptr 7 0 0 ∧ s'.tmp 8 = .ptr 8 0 0 ∧ s'.obj 8 0 = some [natV (lim Q1), natV (lim Q2)] ∧ s'.tmp 9 = .ptr 9 0 0 ∧
      ∃ f i k t1 t2 a1 a2 : Nat, s'.tmp 10 = .sv (.int .u64 (k : Int)) ∧ f + i = F ∧ tRow w Q1 Q2 (many * 128) f k t1 t2 a1 a2 = some (A, B) ∧ s'.obj 7 0 = some [natV (lim t1), natV (lim t2)] ∧ s'.obj 9 0 = some [natV (lim a1), natV (lim a2)] ∧ tInv w 3 i k t1 t2 a1 a2)
    (fun s' => match s'.tmp 10 with | .sv (.int _ i) => 20000 - i.toNat | _ => 0) ⟨rfl, rfl, rfl, rfl, rfl, rfl, rfl, rfl, F, 0, 3, T, T + 1, T, T + 1, rfl, by omega, hr, rfl, rfl, i0⟩ ?_
  rintro s' ⟨i1, i2, i6, o6, i7, i8, o8, i9, f, i, k, t1, t2, a1, a2, i10, hfi, hgo, o7, o9, hok⟩
  obtain ⟨lt1, lt2, la1, la2⟩ := lens i k t1 t2 a1 a2 (by omega) hok
  have hk := hok.1
  have st := step i k t1 t2 a1 a2 hok
  have sm := fix_Small (a := t1) (b := t2) (by omega) (k := 2) (by omega)
  cases f with
  | zero => simp only [tRow] at hgo; cases hgo
  | succ f =>
    rw [tRow] at hgo
    by_cases hs : many * 128 ≤ k ∧ t2 < 4
    · rw [if_pos hs] at hgo
      simp only [Option.some.injEq, Prod.mk.injEq] at hgo
      obtain ⟨rfl, rfl⟩ := hgo
      rw [decide_eq_true (show t2 < 2 ^ 2 from hs.2)] at sm
      have wd := fix_Wider (a := a1) (b := a2) (n := 8) (by omega) (by omega) (by omega)
      have hs1 := hs.1
      clear step lens st hr
      repeat (first | (simp only [go_sem, Nat.reduceEqDiff, Nat.reduceAdd, Nat.reduceSub, Nat.reduceMul, Nat.reduceLeDiff, Nat.reduceLT, reduceIte, reduceCtorEq, Nat.succ_ne_zero, elemsC, Int.reduceToNat, Nat.reducePow, i1, i2, i6, o6, i7, i8, o8, i9, i10, o7, o9, shl, Bool.not_true]) | (simp (disch := (first | omega | (simp only [AL, List.length_map]; omega))) only [AR, AL, ifT, ifF, take_all, List.length_cons, List.length_nil, Int.reduceToNat, Int.reducePow, Nat.reducePow, i1, i2, i6, o6, i7, i8, o8, i9, i10, o7, o9, shl, Bool.not_true]) | (refine wk_intro (by kernel_rfl) ?_) | (refine vf_of (by first | exact sm | exact wd) ?_))
    · rw [if_neg hs] at hgo
      obtain ⟨lu1, lu2, lb1, lb2⟩ := lens (i + 1) (k + 2) _ _ _ _ (by omega) st
      have mu := fix_Mul (a := t1) (b := t2) (c := Q1) (d := Q2) (w := w) (by omega) (by omega) (by omega) (by omega) (by omega) (by omega)
      have qk := nat_Of k (by omega)
      have lq : (lim k).length ≤ 2 := lim_len_lt (by omega)
      have z1 := lim_len_mul (a := t1) (b := Q1)
      have z2 := lim_len_mul (a := t2) (b := Q2)
      have z3 := lim_len_mono (Nat.div_le_self (t1 * Q1) (2 ^ w))
      have z4 := lim_len_add (a := t2 * Q2 / 2 ^ w) (b := 1) (L := 5000) (Nat.le_trans (lim_len_mono (Nat.div_le_self (t2 * Q2) (2 ^ w))) (by omega)) (by omega)
      have tk := fix_Times (a := t1 * Q1 / 2 ^ w) (b := t2 * Q2 / 2 ^ w + 1) (n := 1) (d := k) (by omega) (by omega) (by omega) (by omega) (by omega)
      generalize t1 * Q1 / 2 ^ w * 1 / k = u1 at *
      generalize (t2 * Q2 / 2 ^ w + 1) * 1 / k + 1 = u2 at *
      generalize t1 * Q1 / 2 ^ w = v1 at *
      generalize t2 * Q2 / 2 ^ w + 1 = v2 at *
      have ad := fix_Add (a := a1) (b := a2) (c := u1) (d := u2) (by omega) (by omega) (by omega) (by omega)
      clear step lens hr
      by_cases hs1 : k < many * 128
      · clear sm
        repeat (first | (simp only [go_sem, Nat.reduceEqDiff, Nat.reduceAdd, Nat.reduceSub, Nat.reduceMul, Nat.reduceLeDiff, Nat.reduceLT, reduceIte, reduceCtorEq, Nat.succ_ne_zero, elemsC, Int.reduceToNat, Nat.reducePow, i1, i2, i6, o6, i7, i8, o8, i9, i10, o7, o9, shl]) | (simp (disch := (first | omega | (simp only [AL, List.length_map]; omega))) only [AR, AL, ifT, ifF, take_all, List.length_cons, List.length_nil, Int.reduceToNat, Int.reducePow, Nat.reducePow, i1, i2, i6, o6, i7, i8, o8, i9, i10, o7, o9, shl]) | (refine wk_intro (by kernel_rfl) ?_) | (refine vf_of (by first | exact mu | exact o1 | exact qk | exact tk | exact ad) ?_))
        exact ⟨⟨f, i + 1, k + 2, u1, u2, a1 + u1, a2 + u2, rfl, by omega, hgo, rfl, rfl, st⟩, by omega⟩
      · rw [decide_eq_false (show ¬ t2 < 2 ^ 2 from fun h => hs ⟨by omega, h⟩)] at sm
        repeat (first | (simp only [go_sem, Nat.reduceEqDiff, Nat.reduceAdd, Nat.reduceSub, Nat.reduceMul, Nat.reduceLeDiff, Nat.reduceLT, reduceIte, reduceCtorEq, Nat.succ_ne_zero, elemsC, Int.reduceToNat, Nat.reducePow, i1, i2, i6, o6, i7, i8, o8, i9, i10, o7, o9, shl, Bool.not_false]) | (simp (disch := (first | omega | (simp only [AL, List.length_map]; omega))) only [AR, AL, ifT, ifF, take_all, List.length_cons, List.length_nil, Int.reduceToNat, Int.reducePow, Nat.reducePow, i1, i2, i6, o6, i7, i8, o8, i9, i10, o7, o9, shl, Bool.not_false]) | (refine wk_intro (by kernel_rfl) ?_) | (refine vf_of (by first | exact sm | exact mu | exact o1 | exact qk | exact tk | exact ad) ?_))
        exact ⟨⟨f, i + 1, k + 2, u1, u2, a1 + u1, a2 + u2, rfl, by omega, hgo, rfl, rfl, st⟩, by omega⟩
end
end Go.Proofs.YtemnjalaincijaaGreat

/- bell: area, Phi, Tail, Density, Erf of a number and of its opposite; ball: Neg, Add, in the evaluator. -/
namespace Go.Proofs.YtemnjalaincijaaGreat
set_option linter.unusedSimpArgs false
set_option linter.unusedVariables false
set_option maxRecDepth 8000
open Go.Ev
set_option linter.unusedVariables false
theorem ball_Neg {a b : Rat} {L : Nat} (ha : szR a L) (hb : szR b L) (hL1 : 1 ≤ L) (hL : L ≤ 100000) : Go.Ev.Fn CX 96 [ballR a b] (ballR (-b) (-a)) := by
  have n1 := rat_Neg (RatA_rv ha) hL1 (by omega)
  have n2 := rat_Neg (RatA_rv hb) hL1 (by omega)
  generalize -a = u at *
  generalize -b = w at *
  refine Go.Ev.Fn.intro (fn := Tryz.f96) (body := (Tryz.f96).body.get!) (by kernel_rfl) (by kernel_rfl) (by kernel_rfl) (fun _ => rfl) (Nat.le_of_ble_eq_true (by kernel_rfl)) ?_; unfold Tryz.f96; simp only [Option.get!_some]
  repeat (first | (simp only [go_sem, Nat.reduceEqDiff, Nat.reduceAdd, Nat.reduceSub, Nat.reduceMul, Nat.reduceLeDiff, Nat.reduceLT, reduceIte, reduceCtorEq, Nat.succ_ne_zero, elemsC, Int.reduceToNat, Nat.reducePow]) | (simp (disch := (first | omega | (simp only [AL, List.length_map]; omega))) only [AR, AL, ifT, ifF, take_all, List.length_cons, List.length_nil, Int.reduceToNat, Int.reducePow, Nat.reducePow]) | (refine wk_intro (by kernel_rfl) ?_) | (refine vp_draw (id := 1) (l := []) (by kernel_rfl) ?_) | (refine vf_of (by first | exact n2 | exact n1) ?_))
theorem ball_Add {a b c d : Rat} {L M : Nat} (ha : szR a L) (hb : szR b L) (hc : szR c M) (hd : szR d M) (hL1 : 1 ≤ L) (hM1 : 1 ≤ M) (hL : L + M ≤ 100000) : Go.Ev.Fn CX 97 [ballR a b, ballR c d] (ballR (a + c) (b + d)) := by
  have s1 := rat_Add (RatA_rv ha) (RatA_rv hc) hL1 hM1 (by omega)
  have s2 := rat_Add (RatA_rv hb) (RatA_rv hd) hL1 hM1 (by omega)
  generalize a + c = x at *
  generalize b + d = y at *
  refine Go.Ev.Fn.intro (fn := Tryz.f97) (body := (Tryz.f97).body.get!) (by kernel_rfl) (by kernel_rfl) (by kernel_rfl) (fun _ => rfl) (Nat.le_of_ble_eq_true (by kernel_rfl)) ?_; unfold Tryz.f97; simp only [Option.get!_some]
  repeat (first | (simp only [go_sem, Nat.reduceEqDiff, Nat.reduceAdd, Nat.reduceSub, Nat.reduceMul, Nat.reduceLeDiff, Nat.reduceLT, reduceIte, reduceCtorEq, Nat.succ_ne_zero, elemsC, Int.reduceToNat, Nat.reducePow]) | (simp (disch := (first | omega | (simp only [AL, List.length_map]; omega))) only [AR, AL, ifT, ifF, take_all, List.length_cons, List.length_nil, Int.reduceToNat, Int.reducePow, Nat.reducePow]) | (refine wk_intro (by kernel_rfl) ?_) | (refine vp_draw (id := 1) (l := []) (by kernel_rfl) ?_) | (refine vf_of (by first | exact s1 | exact s2) ?_))
theorem rv_neg (z : Rat) : ∃ s : Bool, rv (-z) = ratV s (lim z.num.natAbs) (lim z.den) := by
  refine ⟨decide ((-z).num < 0), ?_⟩
  show ratV (decide ((-z).num < 0)) (lim (-z).num.natAbs) (lim (-z).den) = _
  rw [Rat.neg_num, Rat.neg_den, Int.natAbs_neg]
theorem two_len : szR 2 1 := ⟨lim_len_lt (by decide +kernel), lim_len_lt (by decide +kernel)⟩
theorem den_le {q : Rat} {L : Nat} (h : szR q L) (hL : L ≤ 7) : q.den ≤ 2 ^ 240 := by
  have a : q.den < 4294967296 ^ (lim q.den).length := lim_len_pow
  have b : 4294967296 ^ (lim q.den).length ≤ 4294967296 ^ 7 := Nat.pow_le_pow_right (by omega) (Nat.le_trans h.2 hL)
  have c : 4294967296 ^ 7 ≤ 2 ^ 240 := by decide +kernel
  omega
theorem num_le8 {z : Rat} (h0 : 0 ≤ z) (h : z ≤ 8) : z.num.natAbs ≤ 8 * z.den := by
  have d := Ex.denR z
  have dR : (0 : Rat) < (z.den : Rat) := by exact_mod_cast z.den_pos
  have nn : 0 ≤ z.num := Rat.num_nonneg.2 h0
  have m := Rat.mul_le_mul_of_nonneg_right h (Rat.le_of_lt dR)
  rw [d] at m
  have k : z.num ≤ 8 * (z.den : Int) := by
    have : (z.num : Rat) ≤ ((8 * (z.den : Int) : Int) : Rat) := by rw [Rat.intCast_mul]; exact m
    exact Rat.intCast_le_intCast.1 this
  omega
theorem neg64 {q : Rat} (h0 : 0 ≤ q) (h : q ≤ 64) : -64 ≤ -q ∧ -q ≤ 0 := by constructor <;> grind
theorem sq_same {y z : Rat} (h : y = z ∨ y = -z) : y * y = z * z := by rcases h with rfl | rfl <;> grind
theorem sq_bd {z : Rat} (h0 : 0 ≤ z) (h : z ≤ 8) : 0 ≤ z * z ∧ z * z ≤ 64 := by
  have a := Rat.mul_nonneg h0 h0
  have b := Rat.mul_le_mul_of_nonneg_left h h0
  exact ⟨a, by grind⟩
section
variable {z : Rat} {w P : Nat} {pI : Int}
/-- The area below the curve, of a number and of its opposite. -/
theorem bell_area {many S1 S2 : Nat} (hz : szR z 3) (h0 : 0 ≤ z) (h8 : z ≤ 8) (hm : 1 ≤ many) (hm2 : many ≤ 2) (hw0 : 8 ≤ w) (hw : w ≤ 500) (hS : S1 ≤ S2) (hS2 : S2 ≤ 2 ^ (w + 2)) :
    ∃ A B : Nat, A ≤ B ∧ B < 2 ^ (w + 10030) ∧ ∀ y : Rat, y = z ∨ y = -z → Go.Ev.Fn CX 94 [rv y, .int .u64 (many : Int), spanV S1 S2, .int .i64 (w : Int)] (spanV A B) := by
  have zp := Nat.le_trans hz.1 (show 3 ≤ 100 by omega)
  have zd := Nat.le_trans hz.2 (show 3 ≤ 100 by omega)
  obtain ⟨R1, R2, r1, r2, fr⟩ := bell_row (n := z.num.natAbs) (d := z.den) (many := many) (w := w) z.den_pos (num_le8 h0 h8) hm hm2 zp zd hw0 (by omega)
  obtain ⟨q0, q64⟩ := sq_bd h0 h8
  obtain ⟨sq, hsq, sqz, sq1, sq2⟩ : ∃ sq : Rat, sq = (if many = 1 then z * z / 2 else z * z) ∧ szR sq 7 ∧ 0 ≤ sq ∧ sq ≤ 64 := by
    by_cases e : many = 1
    · refine ⟨_, rfl, ?_, ?_⟩ <;> rw [if_pos e]
      · exact szR_mono (szR_div (szR_mul hz hz (by omega)) two_len (by omega) (by omega)) (by omega)
      · have hh : z * z / 2 * 2 = z * z := Rat.div_mul_cancel (by decide)
        generalize z * z / 2 = t at *
        clear r1 r2 fr
        constructor <;> grind
    · refine ⟨_, rfl, ?_, ?_⟩ <;> rw [if_neg e]
      · exact szR_mono (szR_mul hz hz (by omega)) (by omega)
      · exact ⟨q0, q64⟩
  have zn := szR_neg sqz
  obtain ⟨F1, F2, f1, -, f2, ff, -⟩ := bell_fall (z := -sq) (w := w) (RatA_rv zn) (by omega) (by omega) (neg64 sq1 sq2).1 (neg64 sq1 sq2).2 (den_le zn (by omega)) (by omega)
  have ng := rat_Neg (RatA_rv sqz) (by omega) (by omega)
  have i2 := rat_Int 2 (by omega)
  have dv := rat_Div (RatA_rv (szR_mul hz hz (by omega))) (RatA_rv (int_szR (n := 2) (by omega))) (by omega) (by omega) (by omega)
  rw [show ((2 : Int) : Rat) = 2 from rfl] at i2 dv
  rw [decide_eq_true (show ¬ (2 : Rat) = 0 by decide)] at dv
  have P2 : 2 ^ 8 ≤ 2 ^ w := Nat.pow_le_pow_right (by omega) hw0
  have e1 : 2 ^ (w + 2) = 2 ^ w * 4 := Nat.pow_add _ _ _
  have lR2 := lim_len_pw r2
  have lR1 := lim_len_mono r1
  have lF2 := lim_len_pw (n := F2) (w := w + 2) (by omega)
  have lF1 := lim_len_mono f1
  have lS2 := lim_len_pw (n := S2) (w := w + 3) (by rw [Nat.pow_add]; omega)
  have lS1 := lim_len_mono hS
  have m1 := fix_Mul (a := R1) (b := R2) (c := F1) (d := F2) (w := w) (by omega) (by omega) (by omega) (by omega) (by omega) (by omega)
  have u1 : R1 * F1 / 2 ^ w ≤ R2 * F2 / 2 ^ w + 1 := Nat.le_succ_of_le (Nat.div_le_div_right (Nat.mul_le_mul r1 f1))
  have u2 : R2 * F2 / 2 ^ w + 1 < 2 ^ (w + 10018) := by
    have a : R2 * F2 / 2 ^ w ≤ 2 ^ (w + 10014) * 4 := by
      refine (Nat.div_le_iff_le_mul (by omega)).2 ?_
      have b := Nat.mul_le_mul (Nat.le_of_lt r2) (show F2 ≤ 4 * 2 ^ w by omega)
      rw [← Nat.mul_assoc] at b
      omega
    have e : 2 ^ (w + 10018) = 2 ^ (w + 10014) * 16 := by rw [show w + 10018 = w + 10014 + 4 by omega, Nat.pow_add _ _ 4]
    have : 2 ^ 1 ≤ 2 ^ (w + 10014) := Nat.pow_le_pow_right (by omega) (by omega)
    omega
  generalize R1 * F1 / 2 ^ w = U1 at *
  generalize R2 * F2 / 2 ^ w + 1 = U2 at *
  have lU2 := lim_len_pw u2
  have lU1 := lim_len_mono u1
  have m2 := fix_Mul (a := U1) (b := U2) (c := S1) (d := S2) (w := w) (by omega) (by omega) (by omega) (by omega) (by omega) (by omega)
  refine ⟨U1 * S1 / 2 ^ w, U2 * S2 / 2 ^ w + 1, Nat.le_succ_of_le (Nat.div_le_div_right (Nat.mul_le_mul u1 hS)), ?_, fun y hy => ?_⟩
  · have a : U2 * S2 / 2 ^ w ≤ 2 ^ (w + 10018) * 4 := by
      refine (Nat.div_le_iff_le_mul (by omega)).2 ?_
      have b := Nat.mul_le_mul (Nat.le_of_lt u2) (show S2 ≤ 4 * 2 ^ w by omega)
      rw [← Nat.mul_assoc] at b
      omega
    have e : 2 ^ (w + 10030) = 2 ^ (w + 10018) * 4096 := by rw [show w + 10030 = w + 10018 + 12 by omega, Nat.pow_add _ _ 12]
    have : 2 ^ 1 ≤ 2 ^ (w + 10018) := Nat.pow_le_pow_right (by omega) (by omega)
    omega
  · obtain ⟨s, hs⟩ : ∃ s : Bool, rv y = ratV s (lim z.num.natAbs) (lim z.den) := by
      rcases hy with rfl | rfl
      · exact ⟨_, rfl⟩
      · exact rv_neg z
    have zy : szR y 3 := by
      rcases hy with rfl | rfl
      · exact hz
      · exact szR_neg hz
    have mu := rat_Mul (RatA_rv zy) (RatA_rv zy) (by omega) (by omega) (by omega)
    have yy := sq_same hy
    rw [yy, hs] at mu
    rw [hs]
    have frs := fr s
    generalize U1 * S1 / 2 ^ w = V1 at *
    generalize U2 * S2 / 2 ^ w + 1 = V2 at *
    clear fr yy zy hy hs e1 P2 u1 u2 r1 r2
    by_cases e : many = 1
    · subst e
      rw [if_pos rfl] at hsq
      rw [← hsq] at dv
      clear hsq sqz sq1 sq2 q0 q64
      generalize z * z = zz at *
      generalize -sq = nsq at *
      refine Go.Ev.Fn.intro (fn := Tryz.f94) (body := (Tryz.f94).body.get!) (by kernel_rfl) (by kernel_rfl) (by kernel_rfl) (fun _ => rfl) (Nat.le_of_ble_eq_true (by kernel_rfl)) ?_; unfold Tryz.f94; simp only [Option.get!_some]
      repeat (first | (simp only [go_sem, Nat.reduceEqDiff, Nat.reduceAdd, Nat.reduceSub, Nat.reduceMul, Nat.reduceLeDiff, Nat.reduceLT, reduceIte, reduceCtorEq, Nat.succ_ne_zero, elemsC, Int.reduceToNat, Nat.reducePow]) | (simp (disch := (first | omega | (simp only [AL, List.length_map]; omega))) only [AR, AL, ifT, ifF, take_all, List.length_cons, List.length_nil, Int.reduceToNat, Int.reducePow, Nat.reducePow]) | (refine wk_intro (by kernel_rfl) ?_) | (refine vp_draw (id := 3) (l := []) (by kernel_rfl) ?_) | (refine vp_draw (id := 4) (l := []) (by kernel_rfl) ?_) | (refine vf_of (by first | exact mu | exact i2 | exact dv | exact frs | exact ng | exact ff | exact m1 | exact m2) ?_))
    · have e2 : many = 2 := by omega
      subst e2
      rw [if_neg (by omega)] at hsq
      rw [← hsq] at mu
      clear hsq sqz sq1 sq2 q0 q64 dv
      generalize -sq = nsq at *
      refine Go.Ev.Fn.intro (fn := Tryz.f94) (body := (Tryz.f94).body.get!) (by kernel_rfl) (by kernel_rfl) (by kernel_rfl) (fun _ => rfl) (Nat.le_of_ble_eq_true (by kernel_rfl)) ?_; unfold Tryz.f94; simp only [Option.get!_some]
      repeat (first | (simp only [go_sem, Nat.reduceEqDiff, Nat.reduceAdd, Nat.reduceSub, Nat.reduceMul, Nat.reduceLeDiff, Nat.reduceLT, reduceIte, reduceCtorEq, Nat.succ_ne_zero, elemsC, Int.reduceToNat, Nat.reducePow]) | (simp (disch := (first | omega | (simp only [AL, List.length_map]; omega))) only [AR, AL, ifT, ifF, take_all, List.length_cons, List.length_nil, Int.reduceToNat, Int.reducePow, Nat.reducePow]) | (refine wk_intro (by kernel_rfl) ?_) | (refine vp_draw (id := 3) (l := []) (by kernel_rfl) ?_) | (refine vp_draw (id := 4) (l := []) (by kernel_rfl) ?_) | (refine vf_of (by first | exact mu | exact frs | exact ng | exact ff | exact m1 | exact m2) ?_))
end
end Go.Proofs.YtemnjalaincijaaGreat

/- bell: Phi, Tail, Density, Erf of a number and of its opposite, in the evaluator. -/
namespace Go.Proofs.YtemnjalaincijaaGreat
set_option linter.unusedSimpArgs false
set_option linter.unusedVariables false
set_option maxRecDepth 8000
open Go.Ev
set_option linter.unusedVariables false
theorem half_div : ((1 : Int) : Rat) / ((2 : Int) : Rat) = 1 / 2 := rfl
theorem hlf_len : szR (1 / 2) 1 := ⟨lim_len_lt (by decide +kernel), lim_len_lt (by decide +kernel)⟩
theorem unit_len : szR 1 1 := ⟨lim_len_lt (by decide +kernel), lim_len_lt (by decide +kernel)⟩
/-- What is told of a span. -/
theorem told_span {A B w p : Nat} (hAB : A ≤ B) (hB : B < 2 ^ (w + 10040)) (hp : p < w) (hw : w ≤ 500) :
    ∃ l h : Rat, l ≤ h ∧ 0 ≤ l ∧ szR l 400 ∧ szR h 400 ∧ l = mkRat ((A / 2 ^ (w - p) : Nat) : Int) (2 ^ p) ∧ h = mkRat ((B / 2 ^ (w - p) + 1 : Nat) : Int) (2 ^ p) ∧ Go.Ev.Fn CX 63 [spanV A B, .int .i64 (w : Int), .int .i64 (p : Int)] (ballR l h) := by
  have lB := lim_len_pw hB
  have lA := lim_len_mono hAB
  have t := fix_Told (a := A) (b := B) (w := w) (p := p) (by omega) (by omega) hp (by omega)
  have P := p2_pos p
  have a := mk_p2 (A / 2 ^ (w - p)) p
  have b := mk_p2 (B / 2 ^ (w - p) + 1) p
  have d : A / 2 ^ (w - p) ≤ B / 2 ^ (w - p) + 1 := Nat.le_succ_of_le (Nat.div_le_div_right hAB)
  have l1 := lim_len_mono (Nat.div_le_self A (2 ^ (w - p)))
  have l2 := lim_len_mono (Nat.div_le_self B (2 ^ (w - p)))
  have l3 := lim_len_add (a := B / 2 ^ (w - p)) (b := 1) (L := 399) (by omega) (by have := lim_len1; omega)
  have lp := lim_len_shl (a := 1) (n := p)
  rw [Nat.one_mul] at lp
  have lo := lim_len1
  refine ⟨_, _, le_by P ?_, le_by P ?_, szR_nat (by omega) (by omega) (by omega), szR_nat (by omega) (by omega) (by omega), rfl, rfl, t⟩
  · rw [a, b]; exact Ex.castle d
  · rw [a, Rat.zero_mul]; exact nat_nonneg _
section
variable {z : Rat} {P : Nat} {pI : Int}
theorem num_neg_iff {x : Rat} (h : 0 < x) : decide (x.num < 0) = false ∧ decide ((-x).num < 0) = true := by
  have a := neg_numX (x := x)
  have b := neg_numX (x := -x)
  rw [decide_eq_false (show ¬ x < 0 by grind)] at a
  rw [decide_eq_true (show -x < 0 by grind)] at b
  exact ⟨a, b⟩
theorem bell_Phi (hz : szR z 3) (h0 : 0 < z) (h8 : z ≤ 8) (hpI : (pI ≤ 0 ∧ P = 0) ∨ pI = (P : Int)) (hP : P ≤ 96) :
    ∃ l h : Rat, l ≤ h ∧ szR l 400 ∧ szR h 400 ∧ (∀ v, RatA v z 3 → Go.Ev.Fn CX 40 [v, .int .i64 pI] (.tup [ballR (1 / 2 + l) (1 / 2 + h), .bool true])) ∧ (∀ v, RatA v (-z) 3 → Go.Ev.Fn CX 40 [v, .int .i64 pI] (.tup [ballR (1 / 2 + -h) (1 / 2 + -l), .bool true])) := by
  have g1 : -8 ≤ z := by grind
  have g2 : -8 ≤ -z := by grind
  have g3 : -z ≤ 8 := by grind
  have g4 : ¬ z = 0 := by grind
  have g5 : ¬ -z = 0 := by grind
  obtain ⟨S1, S2, r1, r2, fs, s1, s2, -⟩ := bell_share (many := 2) (w := P + 128) (by omega) (by omega) (by omega) (by omega)
  obtain ⟨A, B, a1, a2, fa⟩ := bell_area (many := 1) (w := P + 128) hz (Rat.le_of_lt h0) h8 (by omega) (by omega) (by omega) (by omega) s1 s2
  have e40 : 2 ^ (P + 128 + 10030) ≤ 2 ^ (P + 128 + 10040) := Nat.pow_le_pow_right (by omega) (by omega)
  obtain ⟨l, h, t1, t2, t3, t4, -, -, ft⟩ := told_span (w := P + 128) (p := P + 2) a1 (by omega) (by omega) (by omega)
  have hh := bell_held hpI (show P ≤ 200 by omega)
  have i1 := rat_Int 1 (by omega)
  have i2 := rat_Int 2 (by omega)
  have dv := rat_Div (RatA_rv (int_szR (n := 1) (by omega))) (RatA_rv (int_szR (n := 2) (by omega))) (by omega) (by omega) (by omega)
  rw [half_div, decide_eq_true (show ¬ ((2 : Int) : Rat) = 0 by decide)] at dv
  have oh := ball_Of (RatA_rv hlf_len) (by omega)
  have ng := ball_Neg t3 t4 (by omega) (by omega)
  have ad1 := ball_Add hlf_len hlf_len t3 t4 (by omega) (by omega) (by omega)
  have ad2 := ball_Add hlf_len hlf_len (szR_neg t4) (szR_neg t3) (by omega) (by omega) (by omega)
  obtain ⟨n1, n2⟩ := num_neg_iff h0
  rw [show ((P + 128 : Nat) : Int) = (P : Int) + 128 from rfl] at fs fa ft
  rw [show ((P + 2 : Nat) : Int) = (P : Int) + 2 from rfl] at ft
  refine ⟨l, h, t1, t3, t4, fun v hv => ?_, fun v hv => ?_⟩
  · have fr := bell_nigh hv (by omega) (by omega) g1 h8
    have nm := rat_Norm hv (by omega)
    have zr := rat_Zero (RatA_rv hz) (by omega) (by omega)
    rw [decide_eq_false g4] at zr
    have fa1 := fa z (.inl rfl)
    have erz : rv z = ratV false (lim z.num.natAbs) (lim z.den) := by show ratV (decide (z.num < 0)) _ _ = _; rw [n1]
    rw [erz] at nm zr fa1
    clear fa ad2 ng n2 hz h0 h8 t1 t2 t3 t4 e40 a1 a2 s1 s2
    obtain ⟨s, n, d, rfl, -⟩ := hv
    generalize 1 / 2 + l = q1 at *
    generalize 1 / 2 + h = q2 at *
    generalize (1 / 2 : Rat) = hf at *
    refine Go.Ev.Fn.intro (fn := Tryz.f40) (body := (Tryz.f40).body.get!) (by kernel_rfl) (by kernel_rfl) (by kernel_rfl) (fun _ => rfl) (Nat.le_of_ble_eq_true (by kernel_rfl)) ?_; unfold Tryz.f40; simp only [Option.get!_some]
    repeat (first | (simp only [go_sem, Nat.reduceEqDiff, Nat.reduceAdd, Nat.reduceSub, Nat.reduceMul, Nat.reduceLeDiff, Nat.reduceLT, reduceIte, reduceCtorEq, Nat.succ_ne_zero, elemsC, Int.reduceToNat, Nat.reducePow]) | (simp (disch := (first | omega | (simp only [AL, List.length_map]; omega))) only [AR, AL, ifT, ifF, take_all, List.length_cons, List.length_nil, Int.reduceToNat, Int.reducePow, Nat.reducePow]) | (refine wk_intro (by kernel_rfl) ?_) | (refine vp_draw (id := 8) (l := []) (by kernel_rfl) ?_) | (refine vp_draw (id := 11) (l := []) (by kernel_rfl) ?_) | (refine vf_of (by first | exact fr | exact nm | exact i1 | exact i2 | exact dv | exact zr | exact hh | exact fs | exact fa1 | exact ft | exact oh | exact ad1) ?_))
  · have zn := szR_neg hz
    have fr := bell_nigh hv (by omega) (by omega) g2 g3
    have nm := rat_Norm hv (by omega)
    have zr := rat_Zero (RatA_rv zn) (by omega) (by omega)
    rw [decide_eq_false g5] at zr
    have fa1 := fa (-z) (.inr rfl)
    have erz : rv (-z) = ratV true (lim (-z).num.natAbs) (lim (-z).den) := by show ratV (decide ((-z).num < 0)) _ _ = _; rw [n2]
    rw [erz] at nm zr fa1
    clear fa ad1 n1 hz h0 h8 t1 t2 t3 t4 e40 a1 a2 s1 s2 zn
    obtain ⟨s, n, d, rfl, -⟩ := hv
    generalize 1 / 2 + -h = q1 at *
    generalize 1 / 2 + -l = q2 at *
    generalize (1 / 2 : Rat) = hf at *
    generalize -h = mh at *
    generalize -l = ml at *
    refine Go.Ev.Fn.intro (fn := Tryz.f40) (body := (Tryz.f40).body.get!) (by kernel_rfl) (by kernel_rfl) (by kernel_rfl) (fun _ => rfl) (Nat.le_of_ble_eq_true (by kernel_rfl)) ?_; unfold Tryz.f40; simp only [Option.get!_some]
    repeat (first | (simp only [go_sem, Nat.reduceEqDiff, Nat.reduceAdd, Nat.reduceSub, Nat.reduceMul, Nat.reduceLeDiff, Nat.reduceLT, reduceIte, reduceCtorEq, Nat.succ_ne_zero, elemsC, Int.reduceToNat, Nat.reducePow]) | (simp (disch := (first | omega | (simp only [AL, List.length_map]; omega))) only [AR, AL, ifT, ifF, take_all, List.length_cons, List.length_nil, Int.reduceToNat, Int.reducePow, Nat.reducePow]) | (refine wk_intro (by kernel_rfl) ?_) | (refine vp_draw (id := 8) (l := []) (by kernel_rfl) ?_) | (refine vp_draw (id := 11) (l := []) (by kernel_rfl) ?_) | (refine vf_of (by first | exact fr | exact nm | exact i1 | exact i2 | exact dv | exact zr | exact hh | exact fs | exact fa1 | exact ft | exact ng | exact oh | exact ad2) ?_))
theorem bell_Phi0 {v : SV} (hv : RatA v 0 3) : Go.Ev.Fn CX 40 [v, .int .i64 pI] (.tup [ballR (1 / 2) (1 / 2), .bool true]) := by
  have z0 : szR 0 3 := szR_zero (by omega)
  have fr := bell_nigh hv (by omega) (by omega) (by decide +kernel) (by decide +kernel)
  have nm := rat_Norm hv (by omega)
  have zr := rat_Zero (RatA_rv z0) (by omega) (by omega)
  rw [decide_eq_true rfl] at zr
  have i1 := rat_Int 1 (by omega)
  have i2 := rat_Int 2 (by omega)
  have dv := rat_Div (RatA_rv (int_szR (n := 1) (by omega))) (RatA_rv (int_szR (n := 2) (by omega))) (by omega) (by omega) (by omega)
  rw [half_div, decide_eq_true (show ¬ ((2 : Int) : Rat) = 0 by decide)] at dv
  have oh := ball_Of (RatA_rv hlf_len) (by omega)
  obtain ⟨s, n, d, rfl, -⟩ := hv
  generalize (1 / 2 : Rat) = hf at *
  refine Go.Ev.Fn.intro (fn := Tryz.f40) (body := (Tryz.f40).body.get!) (by kernel_rfl) (by kernel_rfl) (by kernel_rfl) (fun _ => rfl) (Nat.le_of_ble_eq_true (by kernel_rfl)) ?_; unfold Tryz.f40; simp only [Option.get!_some]
  repeat (first | (simp only [go_sem, Nat.reduceEqDiff, Nat.reduceAdd, Nat.reduceSub, Nat.reduceMul, Nat.reduceLeDiff, Nat.reduceLT, reduceIte, reduceCtorEq, Nat.succ_ne_zero, elemsC, Int.reduceToNat, Nat.reducePow]) | (simp (disch := (first | omega | (simp only [AL, List.length_map]; omega))) only [AR, AL, ifT, ifF, take_all, List.length_cons, List.length_nil, Int.reduceToNat, Int.reducePow, Nat.reducePow]) | (refine wk_intro (by kernel_rfl) ?_) | (refine vp_draw (id := 8) (l := []) (by kernel_rfl) ?_) | (refine vp_draw (id := 11) (l := []) (by kernel_rfl) ?_) | (refine vf_of (by first | exact fr | exact nm | exact i1 | exact i2 | exact dv | exact zr | exact oh) ?_))
theorem bell_PhiFar {v : SV} (hv : RatA v z 3) (h : z < -8 ∨ 8 < z) : Go.Ev.Fn CX 40 [v, .int .i64 pI] (.tup [ballR 0 0, .bool false]) := by
  have fr := bell_far hv (by omega) (by omega) h
  have i0 := rat_Int 0 (by omega)
  have o := ball_Of (RatA_rv (int_szR (n := 0) (by omega))) (by omega)
  rw [show ((0 : Int) : Rat) = 0 from rfl] at i0 o
  clear h
  obtain ⟨s, n, d, rfl, -⟩ := hv
  refine Go.Ev.Fn.intro (fn := Tryz.f40) (body := (Tryz.f40).body.get!) (by kernel_rfl) (by kernel_rfl) (by kernel_rfl) (fun _ => rfl) (Nat.le_of_ble_eq_true (by kernel_rfl)) ?_; unfold Tryz.f40; simp only [Option.get!_some]
  repeat (first | (simp only [go_sem, Nat.reduceEqDiff, Nat.reduceAdd, Nat.reduceSub, Nat.reduceMul, Nat.reduceLeDiff, Nat.reduceLT, reduceIte, reduceCtorEq, Nat.succ_ne_zero, elemsC, Int.reduceToNat, Nat.reducePow]) | (simp (disch := (first | omega | (simp only [AL, List.length_map]; omega))) only [AR, AL, ifT, ifF, take_all, List.length_cons, List.length_nil, Int.reduceToNat, Int.reducePow, Nat.reducePow]) | (refine wk_intro (by kernel_rfl) ?_) | (refine vp_draw (id := 8) (l := []) (by kernel_rfl) ?_) | (refine vp_draw (id := 11) (l := []) (by kernel_rfl) ?_) | (refine vf_of (by first | exact fr | exact i0 | exact o) ?_))
theorem bell_Tail {v : SV} {r : SV} {a b : Rat} {ok : Bool} (hv : RatA v z 3) (h : Go.Ev.Fn CX 40 [rv (-z), .int .i64 pI] (.tup [ballR a b, .bool ok])) : Go.Ev.Fn CX 43 [v, .int .i64 pI] (.tup [ballR a b, .bool ok]) := by
  have ng := rat_Neg hv (by omega) (by omega)
  obtain ⟨s, n, d, rfl, -⟩ := hv
  generalize -z = y at *
  refine Go.Ev.Fn.intro (fn := Tryz.f43) (body := (Tryz.f43).body.get!) (by kernel_rfl) (by kernel_rfl) (by kernel_rfl) (fun _ => rfl) (Nat.le_of_ble_eq_true (by kernel_rfl)) ?_; unfold Tryz.f43; simp only [Option.get!_some]
  repeat (first | (simp only [go_sem, Nat.reduceEqDiff, Nat.reduceAdd, Nat.reduceSub, Nat.reduceMul, Nat.reduceLeDiff, Nat.reduceLT, reduceIte, reduceCtorEq, Nat.succ_ne_zero, elemsC, Int.reduceToNat, Nat.reducePow]) | (simp (disch := (first | omega | (simp only [AL, List.length_map]; omega))) only [AR, AL, ifT, ifF, take_all, List.length_cons, List.length_nil, Int.reduceToNat, Int.reducePow, Nat.reducePow]) | (refine wk_intro (by kernel_rfl) ?_) | (refine vf_of (by first | exact ng | exact h) ?_))
end
end Go.Proofs.YtemnjalaincijaaGreat

/- vernierref2.Is; vernierref4: Of, Is, Width, Bit, Hold, Side, Good, Same, in the evaluator. -/
namespace Go.Proofs.YtemnjalaincijaaGreat
set_option linter.unusedSimpArgs false
set_option linter.unusedVariables false
set_option maxRecDepth 8000
open Go.Ev
theorem beq_true_self (b : Bool) : (b == b) = true := by cases b <;> rfl
theorem ref2_Is {q : Rat} {L : Nat} (hq : szR q L) (hL : L ≤ 1000000) : Go.Ev.Fn CX 136 [rv q] (.bool true) := by
  have n1 := ref2_Norm (RatA_rv hq) (by omega)
  have l1 := ref2_limbs (lim q.num.natAbs) (lim q.num.natAbs) (by have := hq.1; omega) (by have := hq.1; omega)
  have l2 := ref2_limbs (lim q.den) (lim q.den) (by have := hq.2; omega) (by have := hq.2; omega)
  rw [decide_eq_true rfl] at l1 l2
  have hb := beq_true_self (decide (q.num < 0))
  refine Go.Ev.Fn.intro (fn := Tryz.f136) (body := (Tryz.f136).body.get!) (by kernel_rfl) (by kernel_rfl) (by kernel_rfl) (fun _ => rfl) (Nat.le_of_ble_eq_true (by kernel_rfl)) ?_; unfold Tryz.f136; simp only [Option.get!_some]
  repeat (first | (simp only [go_sem, Nat.reduceEqDiff, Nat.reduceAdd, Nat.reduceSub, Nat.reduceMul, Nat.reduceLeDiff, Nat.reduceLT, reduceIte, reduceCtorEq, Nat.succ_ne_zero, elemsC, Int.reduceToNat, Nat.reducePow, hb]) | (simp (disch := (first | omega | (simp only [AL, List.length_map]; omega))) only [AR, AL, ifT, ifF, take_all, List.length_cons, List.length_nil, Int.reduceToNat, Int.reducePow, Nat.reducePow, hb]) | (refine wk_intro (by kernel_rfl) ?_) | (refine vf_of (by first | exact n1 | exact l1 | exact l2) ?_))
theorem ref4_Of {v : SV} {q : Rat} {L : Nat} (hv : RatA v q L) (hL : L ≤ 1000000) : Go.Ev.Fn CX 22 [v] (ballR q q) := by
  have n1 := ref2_Norm hv (by omega)
  obtain ⟨s, n, d, rfl, -⟩ := hv
  refine Go.Ev.Fn.intro (fn := Tryz.f22) (body := (Tryz.f22).body.get!) (by kernel_rfl) (by kernel_rfl) (by kernel_rfl) (fun _ => rfl) (Nat.le_of_ble_eq_true (by kernel_rfl)) ?_; unfold Tryz.f22; simp only [Option.get!_some]
  repeat (first | (simp only [go_sem, Nat.reduceEqDiff, Nat.reduceAdd, Nat.reduceSub, Nat.reduceMul, Nat.reduceLeDiff, Nat.reduceLT, reduceIte, reduceCtorEq, Nat.succ_ne_zero, elemsC, Int.reduceToNat, Nat.reducePow]) | (simp (disch := (first | omega | (simp only [AL, List.length_map]; omega))) only [AR, AL, ifT, ifF, take_all, List.length_cons, List.length_nil, Int.reduceToNat, Int.reducePow, Nat.reducePow]) | (refine wk_intro (by kernel_rfl) ?_) | (refine vp_draw (id := 1) (l := []) (by kernel_rfl) ?_) | (refine vf_of (by first | exact n1) ?_))
section
variable {a b c d : Rat} {L M : Nat}
theorem ref4_Is (ha : szR a L) (hb : szR b L) (hL1 : 1 ≤ L) (hL : L ≤ 100000) (h : a ≤ b) : Go.Ev.Fn CX 74 [ballR a b] (.bool true) := by
  have i1 := ref2_Is ha (by omega)
  have i2 := ref2_Is hb (by omega)
  have c1 := ref2_Cmp (RatA_rv ha) (RatA_rv hb) hL1 hL1 (by omega)
  have e1 : decide (cmpR a b ≤ 0) = true := by rw [cmpR_le]; exact decide_eq_true h
  generalize cmpR a b = z at *
  refine Go.Ev.Fn.intro (fn := Tryz.f74) (body := (Tryz.f74).body.get!) (by kernel_rfl) (by kernel_rfl) (by kernel_rfl) (fun _ => rfl) (Nat.le_of_ble_eq_true (by kernel_rfl)) ?_; unfold Tryz.f74; simp only [Option.get!_some]
  repeat (first | (simp only [go_sem, Nat.reduceEqDiff, Nat.reduceAdd, Nat.reduceSub, Nat.reduceMul, Nat.reduceLeDiff, Nat.reduceLT, reduceIte, reduceCtorEq, Nat.succ_ne_zero, elemsC, Int.reduceToNat, Nat.reducePow, e1]) | (simp (disch := (first | omega | (simp only [AL, List.length_map]; omega))) only [AR, AL, ifT, ifF, take_all, List.length_cons, List.length_nil, Int.reduceToNat, Int.reducePow, Nat.reducePow, e1]) | (refine wk_intro (by kernel_rfl) ?_) | (refine vf_of (by first | exact i1 | exact i2 | exact c1) ?_))
theorem ref4_Width (ha : szR a L) (hb : szR b L) (hL1 : 1 ≤ L) (hL : L ≤ 100000) : Go.Ev.Fn CX 75 [ballR a b] (rv (b - a)) := by
  have s := ref2_Sub (RatA_rv hb) (RatA_rv ha) hL1 hL1 (by omega)
  refine Go.Ev.Fn.intro (fn := Tryz.f75) (body := (Tryz.f75).body.get!) (by kernel_rfl) (by kernel_rfl) (by kernel_rfl) (fun _ => rfl) (Nat.le_of_ble_eq_true (by kernel_rfl)) ?_; unfold Tryz.f75; simp only [Option.get!_some]
  repeat (first | (simp only [go_sem, Nat.reduceEqDiff, Nat.reduceAdd, Nat.reduceSub, Nat.reduceMul, Nat.reduceLeDiff, Nat.reduceLT, reduceIte, reduceCtorEq, Nat.succ_ne_zero, elemsC, Int.reduceToNat, Nat.reducePow]) | (simp (disch := (first | omega | (simp only [AL, List.length_map]; omega))) only [AR, AL, ifT, ifF, take_all, List.length_cons, List.length_nil, Int.reduceToNat, Int.reducePow, Nat.reducePow]) | (refine wk_intro (by kernel_rfl) ?_) | (refine vf_of (by first | exact s) ?_))
theorem ref4_Bit {p : Nat} (hp : p ≤ 512) : Go.Ev.Fn CX 76 [.int .i64 (p : Int)] (rv (mkRat 1 (2 ^ p))) := by
  have s := ref1_shl (N := 1) (m := p) (by rw [lim_one]; simp) (by omega)
  rw [Nat.one_mul, lim_one] at s
  have l := lim_len_shl (a := 1) (n := p)
  have l1 := lim_len1
  rw [Nat.one_mul] at l
  have o := ref2_OfL (s := false) (n := 1) (d := 2 ^ p) (by omega) (by omega)
  rw [lim_one, show sgn false 1 = 1 from rfl] at o
  generalize mkRat 1 (2 ^ p) = r at *
  generalize 2 ^ p = P at *
  refine Go.Ev.Fn.intro (fn := Tryz.f76) (body := (Tryz.f76).body.get!) (by kernel_rfl) (by kernel_rfl) (by kernel_rfl) (fun _ => rfl) (Nat.le_of_ble_eq_true (by kernel_rfl)) ?_; unfold Tryz.f76; simp only [Option.get!_some]
  repeat (first | (simp only [go_sem, Nat.reduceEqDiff, Nat.reduceAdd, Nat.reduceSub, Nat.reduceMul, Nat.reduceLeDiff, Nat.reduceLT, reduceIte, reduceCtorEq, Nat.succ_ne_zero, elemsC, Int.reduceToNat, Nat.reducePow]) | (simp (disch := (first | omega | (simp only [AL, List.length_map]; omega))) only [AR, AL, ifT, ifF, take_all, List.length_cons, List.length_nil, Int.reduceToNat, Int.reducePow, Nat.reducePow]) | (refine wk_intro (by kernel_rfl) ?_) | (refine vf_of (by first | exact s | exact o) ?_))
theorem ref4_Hold {p : Int} {P : Nat} (h : (p ≤ 0 ∧ P = 0) ∨ p = (P : Int)) (hP : P ≤ 512) : Go.Ev.Fn CX 77 [.int .i64 p] (.int .i64 (P : Int)) := by
  have e1 : (if (0 : Int) > p then (0 : Int) else p) = (P : Int) := by split <;> omega
  have e2 : (if (512 : Int) < (P : Int) then (512 : Int) else (P : Int)) = (P : Int) := if_neg (by omega)
  refine Go.Ev.Fn.intro (fn := Tryz.f77) (body := (Tryz.f77).body.get!) (by kernel_rfl) (by kernel_rfl) (by kernel_rfl) (fun _ => rfl) (Nat.le_of_ble_eq_true (by kernel_rfl)) ?_; unfold Tryz.f77; simp only [Option.get!_some]
  repeat (first | (simp only [go_sem, Nat.reduceEqDiff, Nat.reduceAdd, Nat.reduceSub, Nat.reduceMul, Nat.reduceLeDiff, Nat.reduceLT, reduceIte, reduceCtorEq, Nat.succ_ne_zero, elemsC, Int.reduceToNat, Nat.reducePow, e1, e2]) | (simp (disch := (first | omega | (simp only [AL, List.length_map]; omega))) only [AR, AL, ifT, ifF, take_all, List.length_cons, List.length_nil, Int.reduceToNat, Int.reducePow, Nat.reducePow, e1, e2]) | (refine wk_intro (by kernel_rfl) ?_))
theorem ref4_Side0 (ha : szR a L) (hb : szR b L) (hc : szR c M) (hd : szR d M) (hL1 : 1 ≤ L) (hM1 : 1 ≤ M) (hL : L + M ≤ 100000) (h1 : c ≤ b) (h2 : a ≤ d) : Go.Ev.Fn CX 19 [ballR a b, ballR c d] (.int .i64 0) := by
  have c1 := ref2_Cmp (RatA_rv hb) (RatA_rv hc) hL1 hM1 (by omega)
  have c2 := ref2_Cmp (RatA_rv ha) (RatA_rv hd) hL1 hM1 (by omega)
  have e1 : decide (cmpR b c < 0) = false := by rw [cmpR_lt]; exact decide_eq_false (by grind)
  have e2 : decide (cmpR a d > 0) = false := by rw [cmpR_gt]; exact decide_eq_false (by grind)
  generalize cmpR b c = z1 at *
  generalize cmpR a d = z2 at *
  refine Go.Ev.Fn.intro (fn := Tryz.f19) (body := (Tryz.f19).body.get!) (by kernel_rfl) (by kernel_rfl) (by kernel_rfl) (fun _ => rfl) (Nat.le_of_ble_eq_true (by kernel_rfl)) ?_; unfold Tryz.f19; simp only [Option.get!_some]
  repeat (first | (simp only [go_sem, Nat.reduceEqDiff, Nat.reduceAdd, Nat.reduceSub, Nat.reduceMul, Nat.reduceLeDiff, Nat.reduceLT, reduceIte, reduceCtorEq, Nat.succ_ne_zero, elemsC, Int.reduceToNat, Nat.reducePow, e1, e2]) | (simp (disch := (first | omega | (simp only [AL, List.length_map]; omega))) only [AR, AL, ifT, ifF, take_all, List.length_cons, List.length_nil, Int.reduceToNat, Int.reducePow, Nat.reducePow, e1, e2]) | (refine wk_intro (by kernel_rfl) ?_) | (refine vf_of (by first | exact c1 | exact c2) ?_))
/-- A ball that is narrow, and meets another one, is good. -/
theorem ref4_Good {p : Int} {P : Nat} (hp : (p ≤ 0 ∧ P = 0) ∨ p = (P : Int)) (hP : P ≤ 512) (ha : szR a L) (hb : szR b L) (hc : szR c M) (hd : szR d M) (hL1 : 1 ≤ L) (hM1 : 1 ≤ M) (hL : L + M ≤ 100000) (h0 : a ≤ b) (h1 : c ≤ b) (h2 : a ≤ d) (hw : (b - a) * p2 P ≤ 1) :
    Go.Ev.Fn CX 25 [ballR a b, ballR c d, .int .i64 p] (.bool true) := by
  have i := ref4_Is ha hb hL1 (by omega) h0
  have w := ref4_Width ha hb hL1 (by omega)
  have hh := ref4_Hold hp hP
  have bt := ref4_Bit hP
  have l := lim_len_shl (a := 1) (n := P)
  have l1 := lim_len1
  rw [Nat.one_mul] at l
  have zb : szR (mkRat 1 (2 ^ P)) 20 := szR_mk (s := false) (n := 1) (d := 2 ^ P) (by omega) (by omega) (by omega)
  have zw := szR_sub hb ha hL1
  have c1 := ref2_Cmp (RatA_rv zw) (RatA_rv zb) (by omega) (by omega) (by omega)
  have e0 : b - a ≤ mkRat 1 (2 ^ P) := by
    refine le_by (p2_pos P) ?_
    have : mkRat 1 (2 ^ P) * p2 P = 1 := by
      rw [Rat.mkRat_eq_div]
      exact Rat.div_mul_cancel (by have : (0 : Rat) < p2 P := p2_pos P; grind)
    rw [this]; exact hw
  have e1 : decide (cmpR (b - a) (mkRat 1 (2 ^ P)) ≤ 0) = true := by rw [cmpR_le]; exact decide_eq_true e0
  have sd := ref4_Side0 ha hb hc hd hL1 hM1 (by omega) h1 h2
  generalize cmpR (b - a) (mkRat 1 (2 ^ P)) = z at *
  generalize mkRat 1 (2 ^ P) = r at *
  generalize b - a = x at *
  refine Go.Ev.Fn.intro (fn := Tryz.f25) (body := (Tryz.f25).body.get!) (by kernel_rfl) (by kernel_rfl) (by kernel_rfl) (fun _ => rfl) (Nat.le_of_ble_eq_true (by kernel_rfl)) ?_; unfold Tryz.f25; simp only [Option.get!_some]
  repeat (first | (simp only [go_sem, Nat.reduceEqDiff, Nat.reduceAdd, Nat.reduceSub, Nat.reduceMul, Nat.reduceLeDiff, Nat.reduceLT, reduceIte, reduceCtorEq, Nat.succ_ne_zero, elemsC, Int.reduceToNat, Nat.reducePow, e1]) | (simp (disch := (first | omega | (simp only [AL, List.length_map]; omega))) only [AR, AL, ifT, ifF, take_all, List.length_cons, List.length_nil, Int.reduceToNat, Int.reducePow, Nat.reducePow, e1]) | (refine wk_intro (by kernel_rfl) ?_) | (refine vf_of (by first | exact i | exact w | exact hh | exact bt | exact c1 | exact sd) ?_))
theorem ref4_Same (ha : szR a L) (hb : szR b L) (hL1 : 1 ≤ L) (hL : L ≤ 100000) : Go.Ev.Fn CX 24 [ballR a b, ballR a b] (.bool true) := by
  have s1 := ref2_Same (RatA_rv ha) (RatA_rv ha) hL1 hL1 (by omega)
  have s2 := ref2_Same (RatA_rv hb) (RatA_rv hb) hL1 hL1 (by omega)
  rw [decide_eq_true rfl] at s1 s2
  refine Go.Ev.Fn.intro (fn := Tryz.f24) (body := (Tryz.f24).body.get!) (by kernel_rfl) (by kernel_rfl) (by kernel_rfl) (fun _ => rfl) (Nat.le_of_ble_eq_true (by kernel_rfl)) ?_; unfold Tryz.f24; simp only [Option.get!_some]
  repeat (first | (simp only [go_sem, Nat.reduceEqDiff, Nat.reduceAdd, Nat.reduceSub, Nat.reduceMul, Nat.reduceLeDiff, Nat.reduceLT, reduceIte, reduceCtorEq, Nat.succ_ne_zero, elemsC, Int.reduceToNat, Nat.reducePow]) | (simp (disch := (first | omega | (simp only [AL, List.length_map]; omega))) only [AR, AL, ifT, ifF, take_all, List.length_cons, List.length_nil, Int.reduceToNat, Int.reducePow, Nat.reducePow]) | (refine wk_intro (by kernel_rfl) ?_) | (refine vf_of (by first | exact s1 | exact s2) ?_))
end
end Go.Proofs.YtemnjalaincijaaGreat

/- vernierlaw10.BellSides, in the evaluator. -/
namespace Go.Proofs.YtemnjalaincijaaGreat
set_option linter.unusedSimpArgs false
set_option linter.unusedVariables false
set_option maxRecDepth 8000
open Go.Ev
set_option linter.unusedVariables false
theorem ref4_AddE {a b c d : Rat} {L M : Nat} (ha : szR a L) (hb : szR b L) (hc : szR c M) (hd : szR d M) (hL1 : 1 ≤ L) (hM1 : 1 ≤ M) (hL : L + M ≤ 100000) : Go.Ev.Fn CX 27 [ballR a b, ballR c d] (ballR (a + c) (b + d)) := by
  have s1 := ref2_Add (RatA_rv ha) (RatA_rv hc) hL1 hM1 (by omega)
  have s2 := ref2_Add (RatA_rv hb) (RatA_rv hd) hL1 hM1 (by omega)
  generalize a + c = x at *
  generalize b + d = y at *
  refine Go.Ev.Fn.intro (fn := Tryz.f27) (body := (Tryz.f27).body.get!) (by kernel_rfl) (by kernel_rfl) (by kernel_rfl) (fun _ => rfl) (Nat.le_of_ble_eq_true (by kernel_rfl)) ?_; unfold Tryz.f27; simp only [Option.get!_some]
  repeat (first | (simp only [go_sem, Nat.reduceEqDiff, Nat.reduceAdd, Nat.reduceSub, Nat.reduceMul, Nat.reduceLeDiff, Nat.reduceLT, reduceIte, reduceCtorEq, Nat.succ_ne_zero, elemsC, Int.reduceToNat, Nat.reducePow]) | (simp (disch := (first | omega | (simp only [AL, List.length_map]; omega))) only [AR, AL, ifT, ifF, take_all, List.length_cons, List.length_nil, Int.reduceToNat, Int.reducePow, Nat.reducePow]) | (refine wk_intro (by kernel_rfl) ?_) | (refine vp_draw (id := 1) (l := []) (by kernel_rfl) ?_) | (refine vf_of (by first | exact s1 | exact s2) ?_))
theorem wf_int64E {n : Int} (h : (Lit.int .i64 n).wf = true) : -9223372036854775808 ≤ n ∧ n < 9223372036854775808 := by
  have h' : decide (IntKind.i64.min ≤ n ∧ n ≤ IntKind.i64.max) = true := by simpa [Lit.wf] using h
  have := of_decide_eq_true h'
  simp only [show IntKind.i64.min = -9223372036854775808 from rfl, show IntKind.i64.max = 9223372036854775807 from rfl] at this
  omega
theorem law10_big (s : Bool) (n d : List Nat) (hn : n.length ≤ 9223372036854775807) (hd : d.length ≤ 9223372036854775807) : Go.Ev.Fn CX 38 [.sl 1 [.bool s, natV n, natV d]] (.bool (decide (3 < n.length) || decide (3 < d.length))) := by
  refine Go.Ev.Fn.intro (fn := Tryz.f38) (body := (Tryz.f38).body.get!) (by kernel_rfl) (by kernel_rfl) (by kernel_rfl) (fun _ => rfl) (Nat.le_of_ble_eq_true (by kernel_rfl)) ?_; unfold Tryz.f38; simp only [Option.get!_some]
  repeat (first | (simp only [go_sem, Nat.reduceEqDiff, Nat.reduceAdd, Nat.reduceSub, Nat.reduceMul, Nat.reduceLeDiff, Nat.reduceLT, reduceIte, reduceCtorEq, Nat.succ_ne_zero, elemsC, Int.reduceToNat, Nat.reducePow]) | (simp (disch := (first | omega | (simp only [AL, List.length_map]; omega))) only [AR, AL, ifT, ifF, take_all, List.length_cons, List.length_nil, Int.reduceToNat, Int.reducePow, Nat.reducePow]) | (refine wk_intro (by kernel_rfl) ?_))
  refine vp_loop_inv (fun st => st.tmp 0 = .sv (.sl 1 [.bool s, natV n, natV d]) ∧ ((st.tmp 3 = .sv (.int .i64 0)) ∨ (st.tmp 3 = .sv (.int .i64 1) ∧ n.length ≤ 3 ∧ d.length ≤ 3)))
    (fun st => match st.tmp 3 with | .sv (.int _ i) => 1 - i.toNat | _ => 0) ⟨rfl, .inl rfl⟩ ?_
  rintro st ⟨i0, i3 | ⟨i3, h1, h2⟩⟩
  · by_cases h1 : 3 < n.length
    · rw [decide_eq_true h1, Bool.true_or]
      repeat (first | (simp only [go_sem, Nat.reduceEqDiff, Nat.reduceAdd, Nat.reduceSub, Nat.reduceMul, Nat.reduceLeDiff, Nat.reduceLT, reduceIte, reduceCtorEq, Nat.succ_ne_zero, elemsC, Int.reduceToNat, Nat.reducePow, i0, i3]) | (simp (disch := (first | omega | (simp only [AL, List.length_map]; omega))) only [AR, AL, ifT, ifF, take_all, List.length_cons, List.length_nil, Int.reduceToNat, Int.reducePow, Nat.reducePow, i0, i3]) | (refine wk_intro (by kernel_rfl) ?_))
    · rw [decide_eq_false h1, Bool.false_or]
      by_cases h2 : 3 < d.length
      · rw [decide_eq_true h2]
        repeat (first | (simp only [go_sem, Nat.reduceEqDiff, Nat.reduceAdd, Nat.reduceSub, Nat.reduceMul, Nat.reduceLeDiff, Nat.reduceLT, reduceIte, reduceCtorEq, Nat.succ_ne_zero, elemsC, Int.reduceToNat, Nat.reducePow, i0, i3]) | (simp (disch := (first | omega | (simp only [AL, List.length_map]; omega))) only [AR, AL, ifT, ifF, take_all, List.length_cons, List.length_nil, Int.reduceToNat, Int.reducePow, Nat.reducePow, i0, i3]) | (refine wk_intro (by kernel_rfl) ?_))
      · rw [decide_eq_false h2]
        repeat (first | (simp only [go_sem, Nat.reduceEqDiff, Nat.reduceAdd, Nat.reduceSub, Nat.reduceMul, Nat.reduceLeDiff, Nat.reduceLT, reduceIte, reduceCtorEq, Nat.succ_ne_zero, elemsC, Int.reduceToNat, Nat.reducePow, i0, i3]) | (simp (disch := (first | omega | (simp only [AL, List.length_map]; omega))) only [AR, AL, ifT, ifF, take_all, List.length_cons, List.length_nil, Int.reduceToNat, Int.reducePow, Nat.reducePow, i0, i3]) | (refine wk_intro (by kernel_rfl) ?_))
        first | exact ⟨.inr ⟨rfl, by omega, by omega⟩, by decide⟩ | exact ⟨by omega, by omega⟩
  · rw [decide_eq_false (by omega), decide_eq_false (by omega), Bool.or_false]
    repeat (first | (simp only [go_sem, Nat.reduceEqDiff, Nat.reduceAdd, Nat.reduceSub, Nat.reduceMul, Nat.reduceLeDiff, Nat.reduceLT, reduceIte, reduceCtorEq, Nat.succ_ne_zero, elemsC, Int.reduceToNat, Nat.reducePow, i0, i3]) | (simp (disch := (first | omega | (simp only [AL, List.length_map]; omega))) only [AR, AL, ifT, ifF, take_all, List.length_cons, List.length_nil, Int.reduceToNat, Int.reducePow, Nat.reducePow, i0, i3]) | (refine wk_intro (by kernel_rfl) ?_))
theorem ref10_Far {v : SV} {z : Rat} {L : Nat} (hv : RatA v z L) (hL1 : 1 ≤ L) (hL : L ≤ 100) (h : z < -8 ∨ 8 < z) : Go.Ev.Fn CX 28 [v] (.bool true) := by
  have im := ref2_Int (-8) (by omega)
  have ip := ref2_Int 8 (by omega)
  have c1 := ref2_Cmp hv (RatA_rv (int_szR (n := -8) (by omega))) hL1 (by omega) (by omega)
  have c2 := ref2_Cmp hv (RatA_rv (int_szR (n := 8) (by omega))) hL1 (by omega) (by omega)
  by_cases g : z < -8
  · have e1 : decide (cmpR z ((-8 : Int) : Rat) < 0) = true := by rw [cmpR_lt]; exact decide_eq_true g
    clear h
    obtain ⟨s, n, d, rfl, -⟩ := hv
    generalize cmpR z ((-8 : Int) : Rat) = y1 at *
    refine Go.Ev.Fn.intro (fn := Tryz.f28) (body := (Tryz.f28).body.get!) (by kernel_rfl) (by kernel_rfl) (by kernel_rfl) (fun _ => rfl) (Nat.le_of_ble_eq_true (by kernel_rfl)) ?_; unfold Tryz.f28; simp only [Option.get!_some]
    repeat (first | (simp only [go_sem, Nat.reduceEqDiff, Nat.reduceAdd, Nat.reduceSub, Nat.reduceMul, Nat.reduceLeDiff, Nat.reduceLT, reduceIte, reduceCtorEq, Nat.succ_ne_zero, elemsC, Int.reduceToNat, Nat.reducePow, e1]) | (simp (disch := (first | omega | (simp only [AL, List.length_map]; omega))) only [AR, AL, ifT, ifF, take_all, List.length_cons, List.length_nil, Int.reduceToNat, Int.reducePow, Nat.reducePow, e1]) | (refine wk_intro (by kernel_rfl) ?_) | (refine vp_draw (id := 1) (l := []) (by kernel_rfl) ?_) | (refine vf_of (by first | exact im | exact c1) ?_))
  · have e1 : decide (cmpR z ((-8 : Int) : Rat) < 0) = false := by rw [cmpR_lt]; exact decide_eq_false g
    have e2 : decide (cmpR z ((8 : Int) : Rat) > 0) = true := by rw [cmpR_gt]; exact decide_eq_true (h.resolve_left g)
    clear h
    obtain ⟨s, n, d, rfl, -⟩ := hv
    generalize cmpR z ((-8 : Int) : Rat) = y1 at *
    generalize cmpR z ((8 : Int) : Rat) = y2 at *
    refine Go.Ev.Fn.intro (fn := Tryz.f28) (body := (Tryz.f28).body.get!) (by kernel_rfl) (by kernel_rfl) (by kernel_rfl) (fun _ => rfl) (Nat.le_of_ble_eq_true (by kernel_rfl)) ?_; unfold Tryz.f28; simp only [Option.get!_some]
    repeat (first | (simp only [go_sem, Nat.reduceEqDiff, Nat.reduceAdd, Nat.reduceSub, Nat.reduceMul, Nat.reduceLeDiff, Nat.reduceLT, reduceIte, reduceCtorEq, Nat.succ_ne_zero, elemsC, Int.reduceToNat, Nat.reducePow, e1, e2]) | (simp (disch := (first | omega | (simp only [AL, List.length_map]; omega))) only [AR, AL, ifT, ifF, take_all, List.length_cons, List.length_nil, Int.reduceToNat, Int.reducePow, Nat.reducePow, e1, e2]) | (refine wk_intro (by kernel_rfl) ?_) | (refine vp_draw (id := 1) (l := []) (by kernel_rfl) ?_) | (refine vf_of (by first | exact im | exact c1 | exact ip | exact c2) ?_))
theorem half_mk : mkRat 1 2 = (1 / 2 : Rat) := by decide +kernel
theorem known10 : Go.Ev.Fn CX 41 [] (.bool true) := by
  have o := ref2_Of false [1] [2] (by simp [okL]) (by simp [okL]) (by simp) (by simp)
  rw [show wth [1] = 1 from rfl, show wth [2] = 2 from rfl] at o
  have o' : Go.Ev.Fn CX 30 [.bool false, .sl 1 [.int .u32 1], .sl 1 [.int .u32 2]] (rv (mkRat 1 2)) := o
  rw [half_mk] at o'
  have i0 := ref2_Int 0 (by omega)
  rw [show ((0 : Int) : Rat) = 0 from rfl] at i0
  have f := bell_Phi0 (pI := 10) (RatA_rv (szR_zero (L := 3) (by omega)))
  have hs := ref4_Has (a := 1 / 2) (b := 1 / 2) (q := 1 / 2) hlf_len hlf_len (RatA_rv hlf_len) (by omega) (by omega) (by omega) Rat.le_refl Rat.le_refl
  have gd := ref4_Good (p := 10) (P := 10) (.inr rfl) (by omega) hlf_len hlf_len hlf_len hlf_len (by omega) (by omega) (by omega) Rat.le_refl Rat.le_refl Rat.le_refl (by rw [Rat.sub_self, Rat.zero_mul]; decide)
  clear o
  generalize (1 / 2 : Rat) = t at *
  refine Go.Ev.Fn.intro (fn := Tryz.f41) (body := (Tryz.f41).body.get!) (by kernel_rfl) (by kernel_rfl) (by kernel_rfl) (fun _ => rfl) (Nat.le_of_ble_eq_true (by kernel_rfl)) ?_; unfold Tryz.f41; simp only [Option.get!_some]
  repeat (first | (simp only [go_sem, Nat.reduceEqDiff, Nat.reduceAdd, Nat.reduceSub, Nat.reduceMul, Nat.reduceLeDiff, Nat.reduceLT, reduceIte, reduceCtorEq, Nat.succ_ne_zero, elemsC, Int.reduceToNat, Nat.reducePow]) | (simp (disch := (first | omega | (simp only [AL, List.length_map]; omega))) only [AR, AL, ifT, ifF, take_all, List.length_cons, List.length_nil, Int.reduceToNat, Int.reducePow, Nat.reducePow]) | (refine wk_intro (by kernel_rfl) ?_) | (refine vp_draw (id := 2) (l := [11, 12]) (by kernel_rfl) ?_) | (refine vf_of (by first | exact i0 | exact f | exact o' | exact hs | exact gd) ?_))
/-- Of any number: what is below, what is below the other one. -/
theorem bell_three {v : SV} {z : Rat} {P : Nat} (hv : RatA v z 3) (hP : P ≤ 96) :
    ∃ a b c d : Rat, ∃ ok : Bool, Go.Ev.Fn CX 40 [v, .int .i64 (P : Int)] (.tup [ballR a b, .bool ok]) ∧ Go.Ev.Fn CX 40 [rv (-z), .int .i64 (P : Int)] (.tup [ballR c d, .bool ok]) ∧
      szR a 500 ∧ szR b 500 ∧ szR c 500 ∧ szR d 500 ∧ (ok = true → a + c ≤ 1 ∧ 1 ≤ b + d ∧ c ≤ d) ∧ (ok = false → z < -8 ∨ 8 < z) := by
  have zz := szR_of hv (by omega)
  have zn := szR_neg zz
  have z0 : szR 0 500 := szR_zero (by omega)
  by_cases far : z < -8 ∨ 8 < z
  · have far' : -z < -8 ∨ 8 < -z := by rcases far with h | h; exact .inr (by grind); exact .inl (by grind)
    exact ⟨0, 0, 0, 0, false, bell_PhiFar hv far, bell_PhiFar (RatA_rv zn) far', z0, z0, z0, z0, (fun h => by cases h), fun _ => far⟩
  have n1 : -8 ≤ z := Rat.not_lt.1 fun h => far (.inl h)
  have n2 : z ≤ 8 := Rat.not_lt.1 fun h => far (.inr h)
  have hh : (1 / 2 : Rat) * 2 = 1 := by decide +kernel
  by_cases e : z = 0
  · subst e
    have hv' : RatA (rv (-0)) 0 3 := by rw [Rat.neg_zero]; exact RatA_rv (szR_zero (by omega))
    refine ⟨1 / 2, 1 / 2, 1 / 2, 1 / 2, true, bell_Phi0 hv, bell_Phi0 hv', szR_mono hlf_len (by omega), szR_mono hlf_len (by omega), szR_mono hlf_len (by omega), szR_mono hlf_len (by omega), fun _ => ?_, (fun h => by cases h)⟩
    exact ⟨by decide +kernel, by decide +kernel, Rat.le_refl⟩
  rcases Rat.le_total (a := 0) (b := z) with g | g
  · obtain ⟨l, h, t1, t2, t3, f1, f2⟩ := bell_Phi (pI := (P : Int)) zz (by grind) n2 (.inr rfl) hP
    refine ⟨_, _, _, _, true, f1 v hv, f2 _ (RatA_rv zn), szR_mono (szR_add hlf_len t2 (by omega)) (by omega), szR_mono (szR_add hlf_len t3 (by omega)) (by omega), szR_mono (szR_add hlf_len (szR_neg t3) (by omega)) (by omega), szR_mono (szR_add hlf_len (szR_neg t2) (by omega)) (by omega), fun _ => ?_, (fun h => by cases h)⟩
    generalize (1 / 2 : Rat) = hf at *
    clear f1 f2
    exact ⟨by grind, by grind, by grind⟩
  · obtain ⟨l, h, t1, t2, t3, f1, f2⟩ := bell_Phi (z := -z) (pI := (P : Int)) zn (by grind) (by grind) (.inr rfl) hP
    have hv' : RatA v (- -z) 3 := by rw [Rat.neg_neg]; exact hv
    refine ⟨_, _, _, _, true, f2 v hv', f1 _ (RatA_rv zn), szR_mono (szR_add hlf_len (szR_neg t3) (by omega)) (by omega), szR_mono (szR_add hlf_len (szR_neg t2) (by omega)) (by omega), szR_mono (szR_add hlf_len t2 (by omega)) (by omega), szR_mono (szR_add hlf_len t3 (by omega)) (by omega), fun _ => ?_, (fun h => by cases h)⟩
    generalize (1 / 2 : Rat) = hf at *
    clear f1 f2
    exact ⟨by grind, by grind, by grind⟩
section
variable {z : Rat} {p : Int} {s : Bool} {n d : List Nat}
set_option maxHeartbeats 1000000 in
theorem bsides_out (hn : n.length ≤ 9223372036854775807) (hd : d.length ≤ 9223372036854775807) (hp : -9223372036854775808 ≤ p ∧ p < 9223372036854775808)
    (h : 3 < n.length ∨ 3 < d.length ∨ p < 0 ∨ 80 < p) : Go.Ev.Fn CX 10 [ratV s n d, .int .i64 p] (.bool true) := by
  have bg := law10_big s n d hn hd
  by_cases c0 : 3 < n.length ∨ 3 < d.length
  · rw [show (decide (3 < n.length) || decide (3 < d.length)) = true by rw [← Bool.decide_or]; exact decide_eq_true c0] at bg
    refine Go.Ev.Fn.intro (fn := Tryz.f10) (body := (Tryz.f10).body.get!) (by kernel_rfl) (by kernel_rfl) (by kernel_rfl) (fun _ => rfl) (Nat.le_of_ble_eq_true (by kernel_rfl)) ?_; unfold Tryz.f10; simp only [Option.get!_some]
    repeat (first | (simp only [go_sem, Nat.reduceEqDiff, Nat.reduceAdd, Nat.reduceSub, Nat.reduceMul, Nat.reduceLeDiff, Nat.reduceLT, reduceIte, reduceCtorEq, Nat.succ_ne_zero, elemsC, Int.reduceToNat, Nat.reducePow]) | (simp (disch := (first | omega | (simp only [AL, List.length_map]; omega))) only [AR, AL, ifT, ifF, take_all, List.length_cons, List.length_nil, Int.reduceToNat, Int.reducePow, Nat.reducePow]) | (refine wk_intro (by kernel_rfl) ?_) | (refine vf_of (by first | exact bg) ?_))
  rw [show (decide (3 < n.length) || decide (3 < d.length)) = false by rw [← Bool.decide_or]; exact decide_eq_false c0] at bg
  by_cases c1 : p < 0
  · refine Go.Ev.Fn.intro (fn := Tryz.f10) (body := (Tryz.f10).body.get!) (by kernel_rfl) (by kernel_rfl) (by kernel_rfl) (fun _ => rfl) (Nat.le_of_ble_eq_true (by kernel_rfl)) ?_; unfold Tryz.f10; simp only [Option.get!_some]
    repeat (first | (simp only [go_sem, Nat.reduceEqDiff, Nat.reduceAdd, Nat.reduceSub, Nat.reduceMul, Nat.reduceLeDiff, Nat.reduceLT, reduceIte, reduceCtorEq, Nat.succ_ne_zero, elemsC, Int.reduceToNat, Nat.reducePow]) | (simp (disch := (first | omega | (simp only [AL, List.length_map]; omega))) only [AR, AL, ifT, ifF, take_all, List.length_cons, List.length_nil, Int.reduceToNat, Int.reducePow, Nat.reducePow]) | (refine wk_intro (by kernel_rfl) ?_) | (refine vf_of (by first | exact bg) ?_))
  · have c2 : 80 < p := by omega
    refine Go.Ev.Fn.intro (fn := Tryz.f10) (body := (Tryz.f10).body.get!) (by kernel_rfl) (by kernel_rfl) (by kernel_rfl) (fun _ => rfl) (Nat.le_of_ble_eq_true (by kernel_rfl)) ?_; unfold Tryz.f10; simp only [Option.get!_some]
    repeat (first | (simp only [go_sem, Nat.reduceEqDiff, Nat.reduceAdd, Nat.reduceSub, Nat.reduceMul, Nat.reduceLeDiff, Nat.reduceLT, reduceIte, reduceCtorEq, Nat.succ_ne_zero, elemsC, Int.reduceToNat, Nat.reducePow]) | (simp (disch := (first | omega | (simp only [AL, List.length_map]; omega))) only [AR, AL, ifT, ifF, take_all, List.length_cons, List.length_nil, Int.reduceToNat, Int.reducePow, Nat.reducePow]) | (refine wk_intro (by kernel_rfl) ?_) | (refine vf_of (by first | exact bg) ?_))
set_option maxHeartbeats 1000000 in
theorem bsides_in {P : Nat} (hv : RatA (ratV s n d) z 3) (hn : n.length ≤ 3) (hd : d.length ≤ 3) (hP : P ≤ 80) : Go.Ev.Fn CX 10 [ratV s n d, .int .i64 (P : Int)] (.bool true) := by
  have bg := law10_big s n d (by omega) (by omega)
  rw [decide_eq_false (by omega), decide_eq_false (by omega), Bool.or_false] at bg
  obtain ⟨a, b, c, e, ok, f1, f2, z1, z2, z3, z4, g1, g2⟩ := bell_three (P := P) hv (by omega)
  have tl := bell_Tail (r := .bool true) hv f2
  have ng := ref2_Neg hv (by omega) (by omega)
  have kn := known10
  cases ok with
  | false =>
    have fr := ref10_Far hv (by omega) (by omega) (g2 rfl)
    clear g1 g2
    generalize -z = y at *
    refine Go.Ev.Fn.intro (fn := Tryz.f10) (body := (Tryz.f10).body.get!) (by kernel_rfl) (by kernel_rfl) (by kernel_rfl) (fun _ => rfl) (Nat.le_of_ble_eq_true (by kernel_rfl)) ?_; unfold Tryz.f10; simp only [Option.get!_some]
    repeat (first | (simp only [go_sem, Nat.reduceEqDiff, Nat.reduceAdd, Nat.reduceSub, Nat.reduceMul, Nat.reduceLeDiff, Nat.reduceLT, reduceIte, reduceCtorEq, Nat.succ_ne_zero, elemsC, Int.reduceToNat, Nat.reducePow, Bool.not_false]) | (simp (disch := (first | omega | (simp only [AL, List.length_map]; omega))) only [AR, AL, ifT, ifF, take_all, List.length_cons, List.length_nil, Int.reduceToNat, Int.reducePow, Nat.reducePow, Bool.not_false]) | (refine wk_intro (by kernel_rfl) ?_) | (refine vf_of (by first | exact bg | exact f1 | exact tl | exact ng | exact f2 | exact fr | exact kn) ?_))
  | true =>
    obtain ⟨k1, k2, k3⟩ := g1 rfl
    have ad := ref4_AddE z1 z2 z3 z4 (by omega) (by omega) (by omega)
    have i1 := ref2_Int 1 (by omega)
    have hs := ref4_Has (L := 1001) (szR_add z1 z3 (by omega)) (szR_add z2 z4 (by omega)) (RatA_rv (int_szR (n := 1) (by omega))) (by omega) (by omega) (by omega) (show a + c ≤ ((1 : Int) : Rat) from k1) (show ((1 : Int) : Rat) ≤ b + e from k2)
    have sd := ref4_Side0 z3 z4 z3 z4 (by omega) (by omega) (by omega) k3 k3
    clear g1 g2 k1 k2 k3
    generalize -z = y at *
    generalize a + c = q1 at *
    generalize b + e = q2 at *
    refine Go.Ev.Fn.intro (fn := Tryz.f10) (body := (Tryz.f10).body.get!) (by kernel_rfl) (by kernel_rfl) (by kernel_rfl) (fun _ => rfl) (Nat.le_of_ble_eq_true (by kernel_rfl)) ?_; unfold Tryz.f10; simp only [Option.get!_some]
    repeat (first | (simp only [go_sem, Nat.reduceEqDiff, Nat.reduceAdd, Nat.reduceSub, Nat.reduceMul, Nat.reduceLeDiff, Nat.reduceLT, reduceIte, reduceCtorEq, Nat.succ_ne_zero, elemsC, Int.reduceToNat, Nat.reducePow, Bool.not_true]) | (simp (disch := (first | omega | (simp only [AL, List.length_map]; omega))) only [AR, AL, ifT, ifF, take_all, List.length_cons, List.length_nil, Int.reduceToNat, Int.reducePow, Nat.reducePow, Bool.not_true]) | (refine wk_intro (by kernel_rfl) ?_) | (refine vf_of (by first | exact bg | exact f1 | exact tl | exact ng | exact f2 | exact ad | exact i1 | exact hs | exact sd | exact kn) ?_))
end
set_option maxRecDepth 100000 in
theorem bsides_law (ss0 : List SV) (sh0 : ShpT Tryz.prog 6 24 ss0) (p : Int) (w1 : (Lit.int .i64 p).wf = true) :
    Go.Ev.Fn CX 10 [.agg ss0, .int .i64 p] (.bool true) := by
  obtain ⟨s, n, d, rfl, hn, hd, ln, ld⟩ := shp_rat (n := 3) sh0
  have r1 := wf_int64E w1
  have mx : maxLen ≤ 9223372036854775807 := by decide
  by_cases c : n.length ≤ 3 ∧ d.length ≤ 3 ∧ 0 ≤ p ∧ p ≤ 80
  · obtain ⟨c1, c2, c3, c4⟩ := c
    obtain ⟨z, hz⟩ : ∃ x : Rat, RatA (ratV s n d) x 3 := ⟨_, s, n, d, rfl, hn, hd, c1, c2, rfl⟩
    obtain ⟨P, rfl⟩ : ∃ P : Nat, p = (P : Int) := ⟨p.toNat, by omega⟩
    exact bsides_in hz c1 c2 (by omega)
  · exact bsides_out (Nat.le_trans ln mx) (Nat.le_trans ld mx) r1 (by omega)
end Go.Proofs.YtemnjalaincijaaGreat
