/- Part 8 of the proof: the evaluator, contracts of functions and their plain laws (joined by program). No condition. -/
import Derived.Test.YticocojomlfhgaaGreatDoorPart7
set_option linter.unusedVariables false
set_option linter.unusedSimpArgs false
set_option maxRecDepth 100000
namespace Go.Proofs.YticocojomlfhgaaGreatDoor
open Go.Ev
def D10 : List UInt8 := [48, 49, 50, 51, 52, 53, 54, 55, 56, 57]
theorem D10_dig (b : UInt8) : D10.contains b = dig b := by
  have key : ∀ n : Nat, n < 256 → D10.contains (UInt8.ofNat n) = dig (UInt8.ofNat n) := by decide
  have := key b.toNat b.toNat_lt
  rwa [UInt8.ofNat_toNat] at this
theorem drop_nil {p : UInt8 → Bool} {l : List UInt8} : l.dropWhile p = [] ↔ l.all p = true := by
  induction l with
  | nil => simp
  | cons b l ih =>
    rw [List.dropWhile_cons, List.all_cons]
    cases p b <;> simp [ih]
theorem trim_digs (l : List UInt8) : (Lib.trimS l D10 == []) = digs l := by
  have e : (fun b => D10.contains b) = dig := funext D10_dig
  have h1 : Lib.trimS l D10 = (l.reverse.dropWhile dig).reverse.dropWhile dig := by
    unfold Lib.trimS Lib.trimLeftS Lib.trimRightS
    rw [e]
  rw [h1]
  unfold digs
  cases hl : l.all dig with
  | true =>
    have : l.reverse.dropWhile dig = [] := drop_nil.2 (by rw [List.all_reverse]; exact hl)
    rw [this]
    rfl
  | false =>
    have h2 : l.reverse.dropWhile dig ≠ [] := fun h => by
      have := drop_nil.1 h
      rw [List.all_reverse, hl] at this
      cases this
    have h3 : ((l.reverse.dropWhile dig).reverse.dropWhile dig) ≠ [] := fun h => by
      have h4 := drop_nil.1 h
      rw [List.all_reverse] at h4
      cases hd : l.reverse.dropWhile dig with
      | nil => exact h2 hd
      | cons b r =>
        have h5 := List.head_dropWhile_not dig (w := h2)
        rw [hd] at h4
        rw [List.all_cons, Bool.and_eq_true] at h4
        simp only [hd, List.head_cons] at h5
        rw [h4.1] at h5
        cases h5
    cases h : ((l.reverse.dropWhile dig).reverse.dropWhile dig) with
    | nil => exact absurd h h3
    | cons b r => rfl
theorem x_trim (l : List UInt8) (cs : List UInt8) (h : l.length ≤ 9223372036854775807) (h1 : cs.length < 4294967281) (h2 : cs.all (fun b => decide (b.toNat < 128)) = true) :
    Go.Ev.Fn CX 41 [.str (bs l), .str (bs cs)] (.str (bs (Lib.trimS l cs))) := by
  refine ⟨1, List.replicate 2 none, ?_⟩
  have h3 : xTrim [.sv (.str (bs l)), .sv (.str (bs cs))] = some (.sv (.str (bs (Lib.trimS l cs))), List.replicate 2 none) := by
    unfold xTrim
    simp only [bs_toList, bs_size]
    rw [if_pos ⟨h, h1, h2⟩]
  have h4 : CX.X 41 ([SV.str (bs l), .str (bs cs)].map Arg.sv) = some (.sv (.str (bs (Lib.trimS l cs))), List.replicate 2 none) := h3
  unfold callN
  rw [stq_sv, h4]
theorem x_trimLeft (l : List UInt8) (cs : List UInt8) (h1 : cs.length < 4294967281) (h2 : cs.all (fun b => decide (b.toNat < 128)) = true) :
    Go.Ev.Fn CX 112 [.str (bs l), .str (bs cs)] (.str (bs (Lib.trimLeftS l cs))) := by
  refine ⟨1, List.replicate 2 none, ?_⟩
  have h3 : xTrimLeft [.sv (.str (bs l)), .sv (.str (bs cs))] = some (.sv (.str (bs (Lib.trimLeftS l cs))), List.replicate 2 none) := by
    unfold xTrimLeft
    simp only [bs_toList, bs_size]
    rw [if_pos ⟨h1, h2⟩]
  have h4 : CX.X 112 ([SV.str (bs l), .str (bs cs)].map Arg.sv) = some (.sv (.str (bs (Lib.trimLeftS l cs))), List.replicate 2 none) := h3
  unfold callN
  rw [stq_sv, h4]
theorem natD_lt : ∀ {l : List UInt8}, digs l = true → natD l < 10 ^ l.length := by
  intro l h
  have := natLE_lt (l := l.reverse) (by unfold digs; rw [List.all_reverse]; exact h)
  rw [← natD_rev, List.reverse_reverse, List.length_reverse] at this
  exact this
theorem lim_small {n k : Nat} (h : n < 4294967296 ^ k) : (lim n).length ≤ k := by
  rcases Nat.eq_zero_or_pos (lim n).length with h0 | h0
  · omega
  · have hne : lim n ≠ [] := fun e => by rw [e] at h0; exact absurd h0 (by simp)
    have h1 := trimL_pos (trimL_lim n) hne
    rw [wth_lim] at h1
    have h2 : 4294967296 ^ ((lim n).length - 1) < 4294967296 ^ k := Nat.lt_of_le_of_lt h1 h
    have h3 := (Nat.pow_lt_pow_iff_right (a := 4294967296) (by omega)).1 h2
    omega
theorem lim_ten {n k : Nat} (h : n < 10 ^ k) : (lim n).length ≤ k := by
  refine lim_small (Nat.lt_of_lt_of_le h (Nat.pow_le_pow_left (by omega) k))
theorem lim_ten' {n k : Nat} (h : n < 10 ^ k) : (lim (n * 10)).length ≤ k + 1 := lim_ten (by rw [Nat.pow_succ]; omega)
theorem natV_ten : natV (lim 10) = SV.sl 1 [.int .u32 10] := rfl
theorem natV_zero : natV (lim 0) = SV.sl 0 [] := rfl
def parseV (l : List UInt8) : SV := match natP l with
  | some n => .tup [natV (lim n), .bool true]
  | none => .tup [.sl 0 [], .bool false]
theorem parseV_ok {l : List UInt8} (h0 : l ≠ []) (h1 : l.length ≤ 400) (h2 : digs l = true) : parseV l = .tup [natV (lim (natD l)), .bool true] := by
  unfold parseV natP
  rw [if_neg (by simp [h0, h2]; exact h1)]
theorem parseV_bad {l : List UInt8} (h : l = [] ∨ 400 < l.length ∨ digs l = false) : parseV l = .tup [.sl 0 [], .bool false] := by
  unfold parseV natP
  rw [if_pos h]
theorem nat_Parse (l : List UInt8) (hl : l.length ≤ 1048576) : Go.Ev.Fn CX 110 [.str (bs l)] (parseV l) := by
  have ht := x_trim l D10 (by omega) (by decide) (by decide)
  unfold D10 at ht
  have htd := trim_digs l
  unfold D10 at htd
  by_cases h0 : l = []
  · rw [parseV_bad (.inl h0)]
    subst h0
    refine Go.Ev.Fn.intro (fn := Tryz.f110) (body := (Tryz.f110).body.get!) (by kernel_rfl) (by kernel_rfl) (by kernel_rfl) (fun _ => rfl) (Nat.le_of_ble_eq_true (by kernel_rfl)) ?_; unfold Tryz.f110; simp only [Option.get!_some]
    repeat (first | (simp only [go_sem, bs_list, mk_bs, nil_beq]) | (simp (disch := (first | omega | (simp only [AL, List.length_map]; omega))) only [AR, AL, ifT, ifF, take_all, List.length_cons, List.length_nil, Int.reduceToNat, Int.reducePow, Nat.reducePow, bs_list, mk_bs, nil_beq]) | (refine wk_intro (by kernel_rfl) ?_) | (refine wq_no (by kernel_rfl) ?_) | (refine vp_draw (id := 7) (l := [4, 24, 25, 31]) (by kernel_rfl) ?_))
  have hb : (l == []) = false := by simpa using h0
  by_cases h1 : 400 < l.length
  · rw [parseV_bad (.inr (.inl h1))]
    refine Go.Ev.Fn.intro (fn := Tryz.f110) (body := (Tryz.f110).body.get!) (by kernel_rfl) (by kernel_rfl) (by kernel_rfl) (fun _ => rfl) (Nat.le_of_ble_eq_true (by kernel_rfl)) ?_; unfold Tryz.f110; simp only [Option.get!_some]
    repeat (first | (simp only [go_sem, bs_list, mk_bs, hb, bs_size]) | (simp (disch := (first | omega | (simp only [AL, List.length_map]; omega))) only [AR, AL, ifT, ifF, take_all, List.length_cons, List.length_nil, Int.reduceToNat, Int.reducePow, Nat.reducePow, bs_list, mk_bs, hb, bs_size]) | (refine wk_intro (by kernel_rfl) ?_) | (refine wq_no (by kernel_rfl) ?_) | (refine vp_draw (id := 7) (l := [4, 24, 25, 31]) (by kernel_rfl) ?_))
  cases h2 : digs l with
  | false =>
    rw [h2] at htd
    rw [parseV_bad (.inr (.inr h2))]
    refine Go.Ev.Fn.intro (fn := Tryz.f110) (body := (Tryz.f110).body.get!) (by kernel_rfl) (by kernel_rfl) (by kernel_rfl) (fun _ => rfl) (Nat.le_of_ble_eq_true (by kernel_rfl)) ?_; unfold Tryz.f110; simp only [Option.get!_some]
    repeat (first | (simp only [go_sem, bs_list, mk_bs, hb, bs_size, htd, Bool.not_false]) | (simp (disch := (first | omega | (simp only [AL, List.length_map]; omega))) only [AR, AL, ifT, ifF, take_all, List.length_cons, List.length_nil, Int.reduceToNat, Int.reducePow, Nat.reducePow, bs_list, mk_bs, hb, bs_size, htd, Bool.not_false]) | (refine wk_intro (by kernel_rfl) ?_) | (refine wq_no (by kernel_rfl) ?_) | (refine vp_draw (id := 7) (l := [4, 24, 25, 31]) (by kernel_rfl) ?_) | (refine vf_of (by first | exact ht) ?_))
  | true =>
    rw [h2] at htd
    rw [parseV_ok h0 (by omega) h2]
    refine Go.Ev.Fn.intro (fn := Tryz.f110) (body := (Tryz.f110).body.get!) (by kernel_rfl) (by kernel_rfl) (by kernel_rfl) (fun _ => rfl) (Nat.le_of_ble_eq_true (by kernel_rfl)) ?_; unfold Tryz.f110; simp only [Option.get!_some]
    repeat (first | (simp only [go_sem, bs_list, mk_bs, hb, bs_size, htd, Bool.not_true]) | (simp (disch := (first | omega | (simp only [AL, List.length_map]; omega))) only [AR, AL, ifT, ifF, take_all, List.length_cons, List.length_nil, Int.reduceToNat, Int.reducePow, Nat.reducePow, bs_list, mk_bs, hb, bs_size, htd, Bool.not_true]) | (refine wk_intro (by kernel_rfl) ?_) | (refine wq_no (by kernel_rfl) ?_) | (refine vp_draw (id := 7) (l := [4, 24, 25, 31]) (by kernel_rfl) ?_) | (refine vf_of (by first | exact ht) ?_))
    refine vp_loop_inv (fun s => s.tmp 0 = .sv (.str (bs l)) ∧ s.tmp 19 = .sv (.int .i64 (l.length : Int)) ∧
        ∃ i : Nat, s.tmp 20 = .sv (.int .i64 (i : Int)) ∧ i ≤ l.length ∧ ((i = 0 ∧ s.tmp 4 = .nil ∧ s.tmp 24 = .undef ∧ s.tmp 25 = .undef ∧ s.tmp 31 = .undef) ∨ (s.tmp 4 = .sv (natV (lim (natD (l.take i)))) ∧ ∃ x y z, s.tmp 24 = .sv x ∧ s.tmp 25 = .sv y ∧ s.tmp 31 = .sv z)))
      (fun s => match s.tmp 20 with | .sv (.int _ i) => l.length - i.toNat | _ => 0) ⟨rfl, rfl, 0, rfl, by omega, .inl ⟨rfl, rfl, rfl, rfl, rfl⟩⟩ ?_
    rintro s2 ⟨i0, i19, i, i20, hi, hc⟩
    by_cases hend : i = l.length
    · subst hend
      rcases hc with ⟨h00, _⟩ | ⟨i4, _⟩
      · exact absurd (List.eq_nil_of_length_eq_zero h00) h0
      · rw [List.take_of_length_le (by omega)] at i4
        repeat (first | (simp only [go_sem, i0, i19, i20, i4]) | (simp (disch := (first | omega | (simp only [AL, List.length_map]; omega))) only [AR, AL, ifT, ifF, take_all, List.length_cons, List.length_nil, Int.reduceToNat, Int.reducePow, Nat.reducePow, i0, i19, i20, i4]) | (refine wk_intro (by kernel_rfl) ?_) | (refine wq_no (by kernel_rfl) ?_) | (refine vp_draw (id := 7) (l := [4, 24, 25, 31]) (by kernel_rfl) ?_))
    · have hlt : i < l.length := by omega
      have hd : dig l[i] = true := List.all_eq_true.1 h2 _ (List.getElem_mem hlt)
      unfold dig at hd
      simp only [Bool.and_eq_true, decide_eq_true_eq] at hd
      have hg : l[i]? = some l[i] := List.getElem?_eq_getElem hlt
      have hsnoc : natD (l.take (i + 1)) = natD (l.take i) * 10 + (l[i].toNat - 48) := by
        rw [List.take_add_one, hg]
        exact natD_snoc _ _
      have hs1 : (lim (natD (l.take i))).length ≤ 400 := by
        have := lim_ten (natD_lt (l := l.take i) (by unfold digs; exact List.all_eq_true.2 fun x hx => List.all_eq_true.1 h2 x (List.mem_of_mem_take hx)))
        rw [List.length_take] at this
        omega
      have hs2 : (lim (natD (l.take i) * 10)).length ≤ 401 := by
        have h3 := lim_ten' (natD_lt (l := l.take i) (by unfold digs; exact List.all_eq_true.2 fun x hx => List.all_eq_true.1 h2 x (List.mem_of_mem_take hx)))
        rw [List.length_take] at h3
        omega
      have hs3 : (lim (l[i].toNat - 48)).length ≤ 2 := lim_ten (by omega)
      have m := nat_MulL (N := natD (l.take i)) (D := 10) (by omega) (by decide)
      rw [natV_ten] at m
      have o := nat_Of (l[i].toNat - 48) (by omega)
      have a := nat_AddL (N := natD (l.take i) * 10) (D := l[i].toNat - 48) (by omega) (by omega)
      rw [← hsnoc] at a
      generalize l[i] = b at *
      have e1 : ((b.toNat : Int) - 48) = ((b.toNat - 48 : Nat) : Int) := by omega
      have e2 : IntKind.u8.wrap ((b.toNat - 48 : Nat) : Int) = ((b.toNat - 48 : Nat) : Int) := wU8 (by omega)
      have e3 : IntKind.u64.wrap ((b.toNat - 48 : Nat) : Int) = ((b.toNat - 48 : Nat) : Int) := wU64 (by omega)
      clear hs1 hs2 hs3 hsnoc
      rcases hc with ⟨h00, i4, i24, i25, i31⟩ | ⟨i4, x, y, z, i24, i25, i31⟩
      · subst h00
        rw [List.take_zero, natD_nil, natV_zero] at m
        rw [List.take_zero, natD_nil] at a
        repeat (first | (simp only [go_sem, i0, i19, i20, i4, i24, i25, i31, vo_ix, idxB_bs, hg, e1, e2, e3]) | (simp (disch := (first | omega | (simp only [AL, List.length_map]; omega))) only [AR, AL, ifT, ifF, take_all, List.length_cons, List.length_nil, Int.reduceToNat, Int.reducePow, Nat.reducePow, i0, i19, i20, i4, i24, i25, i31, vo_ix, idxB_bs, hg, e1, e2, e3]) | (refine wk_intro (by kernel_rfl) ?_) | (refine wq_no (by kernel_rfl) ?_) | (refine vp_draw (id := 7) (l := [4, 24, 25, 31]) (by kernel_rfl) ?_) | (refine vf_of (by first | exact m | exact o | exact a) ?_))
        exact ⟨⟨1, rfl, by omega, .inr ⟨rfl, _, _, _, rfl, rfl, rfl⟩⟩, by omega⟩
      · repeat (first | (simp only [go_sem, i0, i19, i20, i4, i24, i25, i31, vo_ix, idxB_bs, hg, e1, e2, e3]) | (simp (disch := (first | omega | (simp only [AL, List.length_map]; omega))) only [AR, AL, ifT, ifF, take_all, List.length_cons, List.length_nil, Int.reduceToNat, Int.reducePow, Nat.reducePow, i0, i19, i20, i4, i24, i25, i31, vo_ix, idxB_bs, hg, e1, e2, e3]) | (refine wk_intro (by kernel_rfl) ?_) | (refine wq_no (by kernel_rfl) ?_) | (refine vp_draw (id := 7) (l := [4, 24, 25, 31]) (by kernel_rfl) ?_))
        repeat (first | (simp only [go_sem, i0, i19, i20, i4, i24, i25, i31, vo_ix, idxB_bs, hg, e1, e2, e3]) | (simp (disch := (first | omega | (simp only [AL, List.length_map]; omega))) only [AR, AL, ifT, ifF, take_all, List.length_cons, List.length_nil, Int.reduceToNat, Int.reducePow, Nat.reducePow, i0, i19, i20, i4, i24, i25, i31, vo_ix, idxB_bs, hg, e1, e2, e3]) | (refine wk_intro (by kernel_rfl) ?_) | (refine wq_no (by kernel_rfl) ?_) | (refine vp_draw (id := 7) (l := [4, 24, 25, 31]) (by kernel_rfl) ?_) | (refine vf_of (by first | exact m | exact o | exact a) ?_))
        exact ⟨⟨i + 1, rfl, by omega, .inr ⟨rfl, _, _, _, rfl, rfl, rfl⟩⟩, by omega⟩
end Go.Proofs.YticocojomlfhgaaGreatDoor
namespace Go.Proofs.YticocojomlfhgaaGreatDoor
open Go.Ev
theorem lite_HasPrefix (l : List UInt8) (c : UInt8) : Go.Ev.Fn CX 154 [.str (bs l), .str (bs [c])] (.bool (l.head? == some c)) := by
  refine Go.Ev.Fn.intro (fn := Tryz.f154) (body := (Tryz.f154).body.get!) (by kernel_rfl) (by kernel_rfl) (by kernel_rfl) (fun _ => rfl) (Nat.le_of_ble_eq_true (by kernel_rfl)) ?_; unfold Tryz.f154; simp only [Option.get!_some]
  cases l with
  | nil =>
    repeat (first | (simp only [go_sem, bs_size]) | (simp (disch := (first | omega | (simp only [AL, List.length_map]; omega))) only [AR, AL, ifT, ifF, take_all, List.length_cons, List.length_nil, Int.reduceToNat, Int.reducePow, Nat.reducePow, bs_size]) | (refine wk_intro (by kernel_rfl) ?_) | (refine wq_no (by kernel_rfl) ?_))
    rfl
  | cons b l =>
    have e : ([b] == [c]) = (b == c) := by simp
    have e2 : ((b :: l).head? == some c) = (b == c) := by simp
    rw [e2]
    repeat (first | (simp only [go_sem, bs_size, bs_extract, bs_list, Nat.sub_zero, e]) | (simp (disch := (first | omega | (simp only [AL, List.length_map]; omega))) only [AR, AL, ifT, ifF, take_all, List.length_cons, List.length_nil, Int.reduceToNat, Int.reducePow, Nat.reducePow, bs_size, bs_extract, bs_list, Nat.sub_zero, e]) | (refine wk_intro (by kernel_rfl) ?_) | (refine wq_no (by kernel_rfl) ?_))
theorem lite_CutPrefix (l : List UInt8) (c : UInt8) : Go.Ev.Fn CX 135 [.str (bs l), .str (bs [c])] (.tup [.str (bs (if l.head? == some c then l.tail else l)), .bool (l.head? == some c)]) := by
  have h := lite_HasPrefix l c
  refine Go.Ev.Fn.intro (fn := Tryz.f135) (body := (Tryz.f135).body.get!) (by kernel_rfl) (by kernel_rfl) (by kernel_rfl) (fun _ => rfl) (Nat.le_of_ble_eq_true (by kernel_rfl)) ?_; unfold Tryz.f135; simp only [Option.get!_some]
  cases hc : l.head? == some c with
  | false =>
    rw [hc] at h
    simp only [go_sem]
    refine vf_of (h) ?_; simp only [go_sem, Bool.not_false]
  | true =>
    rw [hc] at h
    cases l with
    | nil => cases hc
    | cons b l =>
      have e : List.take (l.length + 1 - 1) l = l := List.take_of_length_le (by omega)
      repeat (first | (simp only [go_sem, bs_size, Bool.not_true, bs_extract, List.tail_cons, e]) | (simp (disch := (first | omega | (simp only [AL, List.length_map]; omega))) only [AR, AL, ifT, ifF, take_all, List.length_cons, List.length_nil, Int.reduceToNat, Int.reducePow, Nat.reducePow, bs_size, Bool.not_true, bs_extract, List.tail_cons, e]) | (refine wk_intro (by kernel_rfl) ?_) | (refine wq_no (by kernel_rfl) ?_) | (refine vf_of (by first | exact h) ?_))
theorem str_CutPrefix (l : List UInt8) (c : UInt8) : Go.Ev.Fn CX 109 [.str (bs l), .str (bs [c])] (.tup [.str (bs (if l.head? == some c then l.tail else l)), .bool (l.head? == some c)]) := by
  have h := lite_CutPrefix l c
  refine Go.Ev.Fn.intro (fn := Tryz.f109) (body := (Tryz.f109).body.get!) (by kernel_rfl) (by kernel_rfl) (by kernel_rfl) (fun _ => rfl) (Nat.le_of_ble_eq_true (by kernel_rfl)) ?_; unfold Tryz.f109; simp only [Option.get!_some]
  simp only [go_sem]
  refine vf_of (h) ?_; simp only [go_sem]
theorem pow_lim {k : Nat} : (lim (10 ^ k)).length ≤ k + 1 := lim_ten (Nat.pow_lt_pow_right (by omega) (by omega))
theorem dec_ten (n : Nat) (hn : n ≤ 400) : Go.Ev.Fn CX 111 [.int .i64 (n : Int)] (natV (lim (10 ^ n))) := by
  have o1 := nat_Of 1 (by omega)
  have o10 := nat_Of 10 (by omega)
  refine Go.Ev.Fn.intro (fn := Tryz.f111) (body := (Tryz.f111).body.get!) (by kernel_rfl) (by kernel_rfl) (by kernel_rfl) (fun _ => rfl) (Nat.le_of_ble_eq_true (by kernel_rfl)) ?_; unfold Tryz.f111; simp only [Option.get!_some]
  repeat (first | (simp only [go_sem]) | (simp (disch := (first | omega | (simp only [AL, List.length_map]; omega))) only [AR, AL, ifT, ifF, take_all, List.length_cons, List.length_nil, Int.reduceToNat, Int.reducePow, Nat.reducePow]) | (refine wk_intro (by kernel_rfl) ?_) | (refine wq_no (by kernel_rfl) ?_) | (refine vf_of (by first | exact o1) ?_))
  refine vp_loop_inv (fun s => s.tmp 5 = .sv (.int .i64 (n : Int)) ∧ ∃ i : Nat, s.tmp 6 = .sv (.int .i64 (i : Int)) ∧ i ≤ n ∧ s.tmp 3 = .sv (natV (lim (10 ^ i))))
    (fun s => match s.tmp 6 with | .sv (.int _ i) => n - i.toNat | _ => 0) ⟨rfl, 0, rfl, by omega, rfl⟩ ?_
  rintro s2 ⟨i5, i, i6, hi, i3⟩
  by_cases hend : i = n
  · subst hend
    repeat (first | (simp only [go_sem, i5, i6, i3]) | (simp (disch := (first | omega | (simp only [AL, List.length_map]; omega))) only [AR, AL, ifT, ifF, take_all, List.length_cons, List.length_nil, Int.reduceToNat, Int.reducePow, Nat.reducePow, i5, i6, i3]) | (refine wk_intro (by kernel_rfl) ?_) | (refine wq_no (by kernel_rfl) ?_))
  · have hp := pow_lim (k := i)
    have m := nat_MulL (N := 10 ^ i) (D := 10) (by omega) (by decide)
    rw [show 10 ^ i * 10 = 10 ^ (i + 1) by rw [Nat.pow_succ]] at m
    generalize 10 ^ i = X at *
    generalize hY : 10 ^ (i + 1) = Y at *
    repeat (first | (simp only [go_sem, i5, i6, i3]) | (simp (disch := (first | omega | (simp only [AL, List.length_map]; omega))) only [AR, AL, ifT, ifF, take_all, List.length_cons, List.length_nil, Int.reduceToNat, Int.reducePow, Nat.reducePow, i5, i6, i3]) | (refine wk_intro (by kernel_rfl) ?_) | (refine wq_no (by kernel_rfl) ?_) | (refine vf_of (by first | exact o10 | exact m) ?_))
    exact ⟨⟨i + 1, rfl, by omega, by rw [hY]⟩, by omega⟩
def noR : SV := .agg [.bool false, .sl 0 [], .sl 0 []]
def decPV (l : List UInt8) : SV := match decP l with
  | some q => .tup [rv q, .int .i64 0]
  | none => .tup [noR, .int .i64 2]
theorem parse_len {l : List UInt8} {n : Nat} (h : natP l = some n) : (lim n).length ≤ 400 := by
  unfold natP at h
  split at h
  · cases h
  · rename_i hc
    cases h
    have h1 : ¬ 400 < l.length := fun e => hc (.inr (.inl e))
    have h2 : digs l = true := by
      cases e : digs l with
      | true => rfl
      | false => exact absurd (.inr (.inr e)) hc
    have h3 := lim_ten (natD_lt h2)
    omega
theorem front_len {c : UInt8} {l : List UInt8} : (frontL c l).length ≤ l.length := (List.takeWhile_sublist _).length_le
theorem abs_eq (l : List UInt8) : (if l.head? == some 45 then l.tail else l) = absP l := rfl
theorem parseV_some {l : List UInt8} {n : Nat} (h : natP l = some n) : parseV l = .tup [natV (lim n), .bool true] := by unfold parseV; rw [h]
theorem parseV_none {l : List UInt8} (h : natP l = none) : parseV l = .tup [natV (lim 0), .bool false] := by unfold parseV; rw [h]; rfl
theorem lim_ne {d : Nat} (h : d ≠ 0) : ((lim d).length : Int) ≠ 0 := by
  intro e
  have : lim d = [] := List.eq_nil_of_length_eq_zero (by omega)
  exact h (lim_eq_nil.1 this)
set_option maxHeartbeats 2000000 in
theorem dec_Parse (l : List UInt8) (hl : l.length ≤ 400) : Go.Ev.Fn CX 75 [.str (bs l)] (decPV l) := by
  have hp := str_CutPrefix l 45
  rw [abs_eq, show (l.head? == some 45) = negP l from rfl] at hp
  have ha : (absP l).length ≤ 400 := by
    unfold absP
    split
    · rw [List.length_tail]; omega
    · exact hl
  generalize hA : absP l = A at *
  have c46 := str_Cut CX_str A 46 (by omega)
  have c47 := str_Cut CX_str A 47 (by omega)
  have f46 := front_len (c := 46) (l := A)
  have b46 := back_len (c := 46) (l := A)
  have f47 := front_len (c := 47) (l := A)
  have b47 := back_len (c := 47) (l := A)
  generalize hN : negP l = ng at *
  cases h46 : A.contains 46 with
  | true =>
    rw [h46] at c46
    have p1 := nat_Parse (backL 46 A) (by omega)
    have p2 := nat_Parse (frontL 46 A ++ backL 46 A) (by rw [List.length_append]; omega)
    generalize hF : frontL 46 A = F at *
    generalize hB : backL 46 A = B at *
    by_cases hF0 : F = []
    · have hFb : (F == []) = true := by rw [hF0]; rfl
      have e : decPV l = .tup [noR, .int .i64 2] := by unfold decPV decP; rw [hA]; simp only [h46, hF, if_true, hF0]
      rw [e]
      clear e
      have q1 : ∃ v b, parseV B = .tup [v, .bool b] := by
        cases n1 : natP B with
        | none => exact ⟨_, _, parseV_none n1⟩
        | some m => exact ⟨_, _, parseV_some n1⟩
      have q2 : ∃ v b, parseV (F ++ B) = .tup [v, .bool b] := by
        cases n1 : natP (F ++ B) with
        | none => exact ⟨_, _, parseV_none n1⟩
        | some m => exact ⟨_, _, parseV_some n1⟩
      obtain ⟨v1, b1, q1⟩ := q1
      obtain ⟨v2, b2, q2⟩ := q2
      rw [q1] at p1
      rw [q2] at p2
      refine Go.Ev.Fn.intro (fn := Tryz.f75) (body := (Tryz.f75).body.get!) (by kernel_rfl) (by kernel_rfl) (by kernel_rfl) (fun _ => rfl) (Nat.le_of_ble_eq_true (by kernel_rfl)) ?_; unfold Tryz.f75; simp only [Option.get!_some]
      repeat (first | (simp only [go_sem, mk_bs, bs_size, bs_append, bs_list, hFb, noR]) | (simp (disch := (first | omega | (simp only [AL, List.length_map]; omega))) only [AR, AL, ifT, ifF, take_all, List.length_cons, List.length_nil, Int.reduceToNat, Int.reducePow, Nat.reducePow, mk_bs, bs_size, bs_append, bs_list, hFb, noR]) | (refine wk_intro (by kernel_rfl) ?_) | (refine wq_no (by kernel_rfl) ?_) | (refine vf_of (by first | exact hp | exact c46 | exact p1 | exact p2) ?_))
    · have hFb : (F == []) = false := by simpa using hF0
      cases n1 : natP B with
      | none =>
        have q2 : ∃ v b, parseV (F ++ B) = .tup [v, .bool b] := by
          cases n1 : natP (F ++ B) with
          | none => exact ⟨_, _, parseV_none n1⟩
          | some m => exact ⟨_, _, parseV_some n1⟩
        obtain ⟨v2, b2, q2⟩ := q2
        rw [parseV_none n1] at p1
        rw [q2] at p2
        have e : decPV l = .tup [noR, .int .i64 2] := by unfold decPV decP; rw [hA]; simp only [h46, hF, hB, if_true, hF0, if_false, n1]
        rw [e]
        clear e
        refine Go.Ev.Fn.intro (fn := Tryz.f75) (body := (Tryz.f75).body.get!) (by kernel_rfl) (by kernel_rfl) (by kernel_rfl) (fun _ => rfl) (Nat.le_of_ble_eq_true (by kernel_rfl)) ?_; unfold Tryz.f75; simp only [Option.get!_some]
        repeat (first | (simp only [go_sem, mk_bs, bs_size, bs_append, bs_list, hFb, Bool.not_false, noR]) | (simp (disch := (first | omega | (simp only [AL, List.length_map]; omega))) only [AR, AL, ifT, ifF, take_all, List.length_cons, List.length_nil, Int.reduceToNat, Int.reducePow, Nat.reducePow, mk_bs, bs_size, bs_append, bs_list, hFb, Bool.not_false, noR]) | (refine wk_intro (by kernel_rfl) ?_) | (refine wq_no (by kernel_rfl) ?_) | (refine vf_of (by first | exact hp | exact c46 | exact p1 | exact p2) ?_))
      | some m =>
        rw [parseV_some n1] at p1
        cases n2 : natP (F ++ B) with
        | none =>
          rw [parseV_none n2] at p2
          have e : decPV l = .tup [noR, .int .i64 2] := by unfold decPV decP; rw [hA]; simp only [h46, hF, hB, if_true, hF0, if_false, n1, n2]
          rw [e]
          clear e
          refine Go.Ev.Fn.intro (fn := Tryz.f75) (body := (Tryz.f75).body.get!) (by kernel_rfl) (by kernel_rfl) (by kernel_rfl) (fun _ => rfl) (Nat.le_of_ble_eq_true (by kernel_rfl)) ?_; unfold Tryz.f75; simp only [Option.get!_some]
          repeat (first | (simp only [go_sem, mk_bs, bs_size, bs_append, bs_list, hFb, Bool.not_false, Bool.not_true, noR]) | (simp (disch := (first | omega | (simp only [AL, List.length_map]; omega))) only [AR, AL, ifT, ifF, take_all, List.length_cons, List.length_nil, Int.reduceToNat, Int.reducePow, Nat.reducePow, mk_bs, bs_size, bs_append, bs_list, hFb, Bool.not_false, Bool.not_true, noR]) | (refine wk_intro (by kernel_rfl) ?_) | (refine wq_no (by kernel_rfl) ?_) | (refine vf_of (by first | exact hp | exact c46 | exact p1 | exact p2) ?_))
        | some n =>
          rw [parseV_some n2] at p2
          have ht := dec_ten B.length (by omega)
          have o := rat_OfL (s := ng) (n := n) (d := 10 ^ B.length) (by have := parse_len n2; omega) (by have := pow_lim (k := B.length); omega)
          have e : decPV l = .tup [rv (mkRat (sgn ng n) (10 ^ B.length)), .int .i64 0] := by unfold decPV decP; rw [hA]; simp only [h46, hF, hB, if_true, hF0, if_false, n1, n2, hN]
          rw [e]
          clear e
          generalize mkRat (sgn ng n) (10 ^ B.length) = q at *
          refine Go.Ev.Fn.intro (fn := Tryz.f75) (body := (Tryz.f75).body.get!) (by kernel_rfl) (by kernel_rfl) (by kernel_rfl) (fun _ => rfl) (Nat.le_of_ble_eq_true (by kernel_rfl)) ?_; unfold Tryz.f75; simp only [Option.get!_some]
          repeat (first | (simp only [go_sem, mk_bs, bs_size, bs_append, bs_list, hFb, Bool.not_true, rv, ratV]) | (simp (disch := (first | omega | (simp only [AL, List.length_map]; omega))) only [AR, AL, ifT, ifF, take_all, List.length_cons, List.length_nil, Int.reduceToNat, Int.reducePow, Nat.reducePow, mk_bs, bs_size, bs_append, bs_list, hFb, Bool.not_true, rv, ratV]) | (refine wk_intro (by kernel_rfl) ?_) | (refine wq_no (by kernel_rfl) ?_) | (refine vf_of (by first | exact hp | exact c46 | exact p1 | exact p2 | exact ht | exact o) ?_))
  | false =>
    rw [h46] at c46
    have p1 := nat_Parse (frontL 47 A) (by omega)
    have hden : ∃ D, D = (if A.contains 47 then backL 47 A else [49]) ∧ D.length ≤ 400 := by
      refine ⟨_, rfl, ?_⟩
      split
      · omega
      · decide
    obtain ⟨D, hD, hDl⟩ := hden
    have p2 := nat_Parse D (by omega)
    have hd : decPV l = match (match natP (frontL 47 A), natP D with | some n, some d => if d = 0 then none else some (mkRat (sgn ng n) d) | _, _ => none) with
        | some q => .tup [rv q, .int .i64 0]
        | none => .tup [noR, .int .i64 2] := by
      unfold decPV decP
      rw [hA, hN, h46, hD]
      rfl
    rw [hd]
    clear hd
    generalize frontL 47 A = F at *
    cases n1 : natP F with
    | none =>
      have q2 : ∃ v b, parseV D = .tup [v, .bool b] := by
        cases n1 : natP D with
        | none => exact ⟨_, _, parseV_none n1⟩
        | some m => exact ⟨_, _, parseV_some n1⟩
      obtain ⟨v2, b2, q2⟩ := q2
      rw [parseV_none n1] at p1
      rw [q2] at p2
      dsimp only
      cases h47 : A.contains 47 with
      | true =>
        rw [h47] at c47 hD
        simp only [if_true] at hD
        rw [hD] at p2
        refine Go.Ev.Fn.intro (fn := Tryz.f75) (body := (Tryz.f75).body.get!) (by kernel_rfl) (by kernel_rfl) (by kernel_rfl) (fun _ => rfl) (Nat.le_of_ble_eq_true (by kernel_rfl)) ?_; unfold Tryz.f75; simp only [Option.get!_some]
        repeat (first | (simp only [go_sem, mk_bs, bs_size, Bool.not_true, bs_list, Bool.not_false, noR]) | (simp (disch := (first | omega | (simp only [AL, List.length_map]; omega))) only [AR, AL, ifT, ifF, take_all, List.length_cons, List.length_nil, Int.reduceToNat, Int.reducePow, Nat.reducePow, mk_bs, bs_size, Bool.not_true, bs_list, Bool.not_false, noR]) | (refine wk_intro (by kernel_rfl) ?_) | (refine wq_no (by kernel_rfl) ?_) | (refine vf_of (by first | exact hp | exact c46 | exact c47 | exact p1 | exact p2) ?_))
      | false =>
        rw [h47] at c47 hD
        simp only [Bool.false_eq_true, if_false] at hD
        rw [hD] at p2
        refine Go.Ev.Fn.intro (fn := Tryz.f75) (body := (Tryz.f75).body.get!) (by kernel_rfl) (by kernel_rfl) (by kernel_rfl) (fun _ => rfl) (Nat.le_of_ble_eq_true (by kernel_rfl)) ?_; unfold Tryz.f75; simp only [Option.get!_some]
        repeat (first | (simp only [go_sem, mk_bs, bs_size, Bool.not_false, bs_list, noR]) | (simp (disch := (first | omega | (simp only [AL, List.length_map]; omega))) only [AR, AL, ifT, ifF, take_all, List.length_cons, List.length_nil, Int.reduceToNat, Int.reducePow, Nat.reducePow, mk_bs, bs_size, Bool.not_false, bs_list, noR]) | (refine wk_intro (by kernel_rfl) ?_) | (refine wq_no (by kernel_rfl) ?_) | (refine vf_of (by first | exact hp | exact c46 | exact c47 | exact p1 | exact p2) ?_))
    | some n =>
      rw [parseV_some n1] at p1
      have l1 := parse_len n1
      cases n2 : natP D with
      | none =>
        rw [parseV_none n2] at p2
        dsimp only
        cases h47 : A.contains 47 with
        | true =>
          rw [h47] at c47 hD
          simp only [if_true] at hD
          rw [hD] at p2
          refine Go.Ev.Fn.intro (fn := Tryz.f75) (body := (Tryz.f75).body.get!) (by kernel_rfl) (by kernel_rfl) (by kernel_rfl) (fun _ => rfl) (Nat.le_of_ble_eq_true (by kernel_rfl)) ?_; unfold Tryz.f75; simp only [Option.get!_some]
          repeat (first | (simp only [go_sem, mk_bs, bs_size, Bool.not_true, bs_list, Bool.not_false, noR]) | (simp (disch := (first | omega | (simp only [AL, List.length_map]; omega))) only [AR, AL, ifT, ifF, take_all, List.length_cons, List.length_nil, Int.reduceToNat, Int.reducePow, Nat.reducePow, mk_bs, bs_size, Bool.not_true, bs_list, Bool.not_false, noR]) | (refine wk_intro (by kernel_rfl) ?_) | (refine wq_no (by kernel_rfl) ?_) | (refine vf_of (by first | exact hp | exact c46 | exact c47 | exact p1 | exact p2) ?_))
        | false =>
          rw [h47] at hD
          simp only [Bool.false_eq_true, if_false] at hD
          subst hD
          have : natP [49] = some 1 := rfl
          rw [this] at n2
          cases n2
      | some d =>
        rw [parseV_some n2] at p2
        dsimp only
        have l2 := parse_len n2
        by_cases hd0 : d = 0
        · subst hd0
          rw [if_pos rfl]
          dsimp only
          rw [natV_zero] at p2
          cases h47 : A.contains 47 with
          | true =>
            rw [h47] at c47 hD
            simp only [if_true] at hD
            rw [hD] at p2
            refine Go.Ev.Fn.intro (fn := Tryz.f75) (body := (Tryz.f75).body.get!) (by kernel_rfl) (by kernel_rfl) (by kernel_rfl) (fun _ => rfl) (Nat.le_of_ble_eq_true (by kernel_rfl)) ?_; unfold Tryz.f75; simp only [Option.get!_some]
            repeat (first | (simp only [go_sem, mk_bs, bs_size, Bool.not_true, bs_list, Bool.not_false, noR]) | (simp (disch := (first | omega | (simp only [AL, List.length_map]; omega))) only [AR, AL, ifT, ifF, take_all, List.length_cons, List.length_nil, Int.reduceToNat, Int.reducePow, Nat.reducePow, mk_bs, bs_size, Bool.not_true, bs_list, Bool.not_false, noR]) | (refine wk_intro (by kernel_rfl) ?_) | (refine wq_no (by kernel_rfl) ?_) | (refine vf_of (by first | exact hp | exact c46 | exact c47 | exact p1 | exact p2) ?_))
          | false =>
            rw [h47] at hD
            simp only [Bool.false_eq_true, if_false] at hD
            subst hD
            have : natP [49] = some 1 := rfl
            rw [this] at n2
            cases n2
        · rw [if_neg hd0]
          dsimp only
          have hne := lim_ne hd0
          have o := rat_OfL (s := ng) (n := n) (d := d) (by omega) (by omega)
          generalize mkRat (sgn ng n) d = q at *
          cases h47 : A.contains 47 with
          | true =>
            rw [h47] at c47 hD
            simp only [if_true] at hD
            rw [hD] at p2
            refine Go.Ev.Fn.intro (fn := Tryz.f75) (body := (Tryz.f75).body.get!) (by kernel_rfl) (by kernel_rfl) (by kernel_rfl) (fun _ => rfl) (Nat.le_of_ble_eq_true (by kernel_rfl)) ?_; unfold Tryz.f75; simp only [Option.get!_some]
            repeat (first | (simp only [go_sem, mk_bs, bs_size, Bool.not_true, bs_list, Bool.not_false, rv, ratV]) | (simp (disch := (first | omega | (simp only [AL, List.length_map]; omega))) only [AR, AL, ifT, ifF, take_all, List.length_cons, List.length_nil, Int.reduceToNat, Int.reducePow, Nat.reducePow, mk_bs, bs_size, Bool.not_true, bs_list, Bool.not_false, rv, ratV]) | (refine wk_intro (by kernel_rfl) ?_) | (refine wq_no (by kernel_rfl) ?_) | (refine vf_of (by first | exact hp | exact c46 | exact c47 | exact p1 | exact p2 | exact o) ?_))
          | false =>
            rw [h47] at c47 hD
            simp only [Bool.false_eq_true, if_false] at hD
            rw [hD] at p2
            refine Go.Ev.Fn.intro (fn := Tryz.f75) (body := (Tryz.f75).body.get!) (by kernel_rfl) (by kernel_rfl) (by kernel_rfl) (fun _ => rfl) (Nat.le_of_ble_eq_true (by kernel_rfl)) ?_; unfold Tryz.f75; simp only [Option.get!_some]
            repeat (first | (simp only [go_sem, mk_bs, bs_size, Bool.not_false, bs_list, Bool.not_true, rv, ratV]) | (simp (disch := (first | omega | (simp only [AL, List.length_map]; omega))) only [AR, AL, ifT, ifF, take_all, List.length_cons, List.length_nil, Int.reduceToNat, Int.reducePow, Nat.reducePow, mk_bs, bs_size, Bool.not_false, bs_list, Bool.not_true, rv, ratV]) | (refine wk_intro (by kernel_rfl) ?_) | (refine wq_no (by kernel_rfl) ?_) | (refine vf_of (by first | exact hp | exact c46 | exact c47 | exact p1 | exact p2 | exact o) ?_))
end Go.Proofs.YticocojomlfhgaaGreatDoor
namespace Go.Proofs.YticocojomlfhgaaGreatDoor
open Go.Ev
theorem pm_set (l : List UInt8) : Lib.trimLeftS l [43, 45] = l.dropWhile isPM := by
  unfold Lib.trimLeftS
  congr 1
  funext b
  unfold isPM
  simp only [List.contains_cons, List.contains_nil, Bool.or_false]
theorem dec_from : ∀ {l : List UInt8} (a : Nat), digs l = true → Lib.decFrom a l = some (l.foldl (fun a b => a * 10 + (b.toNat - 48)) a) := by
  intro l
  induction l with
  | nil => intro a _; rfl
  | cons b l ih =>
    intro a h
    unfold digs at h
    rw [List.all_cons, Bool.and_eq_true] at h
    have hb := h.1
    unfold dig at hb
    simp only [Bool.and_eq_true, decide_eq_true_eq] at hb
    have hd : Lib.digitVal b = some (b.toNat - 48) := by unfold Lib.digitVal; rw [if_pos hb]
    rw [Lib.decFrom, hd]
    exact ih _ h.2
theorem dec_nat {l : List UInt8} (h0 : l ≠ []) (h : digs l = true) : Lib.decNat l = some (natD l) := by
  unfold Lib.decNat
  rw [if_neg (by simpa using h0), dec_from 0 h]
  rfl
theorem atoi_is {l : List UInt8} (h1 : l.length - (l.dropWhile isPM).length ≤ 1) (h2 : 1 ≤ (l.dropWhile isPM).length) (h3 : digs (l.dropWhile isPM) = true) :
    Lib.atoi l = some (if l.head? = some 45 then - (natD (l.dropWhile isPM) : Int) else (natD (l.dropWhile isPM) : Int)) := by
  cases l with
  | nil => simp at h2
  | cons b r =>
    cases hb : isPM b with
    | false =>
      rw [List.dropWhile_cons, hb] at h2 h3 ⊢
      simp only [Bool.false_eq_true, if_false] at h2 h3 ⊢
      unfold isPM at hb
      rw [Bool.or_eq_false_iff] at hb
      have e45 : ¬ b = 45 := by simpa using hb.2
      rw [Lib.atoi, hb.1, hb.2, dec_nat (by simp) h3]
      simp [e45]
    | true =>
      rw [List.dropWhile_cons, hb] at h1 h2 h3 ⊢
      simp only [if_true] at h1 h2 h3 ⊢
      have hr : r.dropWhile isPM = r := by
        have hle := (List.dropWhile_sublist (l := r) isPM).length_le
        have : (r.dropWhile isPM).length = r.length := by simp at h1; omega
        exact (List.dropWhile_sublist isPM).eq_of_length this
      rw [hr] at h2 h3 ⊢
      have h0 : r ≠ [] := fun e => by subst e; simp at h2
      rw [Lib.atoi, dec_nat h0 h3]
      unfold isPM at hb
      rw [Bool.or_eq_true] at hb
      rcases hb with hb | hb
      · have e : b = 43 := by simpa using hb
        subst e
        rfl
      · have e : b = 45 := by simpa using hb
        subst e
        rfl
theorem x_atoi {l : List UInt8} {v : Int} (h : l.length ≤ 18) (hv : Lib.atoi l = some v) : Go.Ev.Fn CX 113 [.str (bs l)] (.tup [.int .i64 v, .con .nilIface]) := by
  refine ⟨1, List.replicate 1 none, ?_⟩
  have h3 : xAtoi [.sv (.str (bs l))] = some (.sv (.tup [.int .i64 v, .con .nilIface]), List.replicate 1 none) := by
    unfold xAtoi
    simp only [bs_toList, bs_size, hv]
    rw [if_pos h]
  have h4 : CX.X 113 ([SV.str (bs l)].map Arg.sv) = some (.sv (.tup [.int .i64 v, .con .nilIface]), List.replicate 1 none) := h3
  unfold callN
  rw [stq_sv, h4]
theorem data_exponent (l : List UInt8) (hl : l.length ≤ 1048576) : ∃ k : Int, Go.Ev.Fn CX 76 [.str (bs l)] (.tup [.int .i64 k, .bool (expP l).isSome]) ∧ ∀ v, expP l = some v → v = k ∧ -30 ≤ k ∧ k ≤ 30 := by
  have htl := x_trimLeft l [43, 45] (by decide) (by decide)
  rw [pm_set] at htl
  have hle := (List.dropWhile_sublist (l := l) isPM).length_le
  have ht := x_trim (l.dropWhile isPM) D10 (by omega) (by decide) (by decide)
  have htd := trim_digs (l.dropWhile isPM)
  unfold D10 at ht htd
  by_cases hc : l.length - (l.dropWhile isPM).length > 1 ∨ (l.dropWhile isPM).length < 1 ∨ (l.dropWhile isPM).length > 2 ∨ digs (l.dropWhile isPM) = false
  · have e : expP l = none := by unfold expP; rw [if_pos hc]
    rw [e]
    refine ⟨0, ?_, fun v h => by cases h⟩
    rw [Option.isSome_none]
    clear e
    generalize hd : l.dropWhile isPM = d at *
    by_cases h1 : l.length - d.length > 1
    · refine Go.Ev.Fn.intro (fn := Tryz.f76) (body := (Tryz.f76).body.get!) (by kernel_rfl) (by kernel_rfl) (by kernel_rfl) (fun _ => rfl) (Nat.le_of_ble_eq_true (by kernel_rfl)) ?_; unfold Tryz.f76; simp only [Option.get!_some]
      repeat (first | (simp only [go_sem, mk_bs, bs_size]) | (simp (disch := (first | omega | (simp only [AL, List.length_map]; omega))) only [AR, AL, ifT, ifF, take_all, List.length_cons, List.length_nil, Int.reduceToNat, Int.reducePow, Nat.reducePow, mk_bs, bs_size]) | (refine wk_intro (by kernel_rfl) ?_) | (refine wq_no (by kernel_rfl) ?_) | (refine vf_of (by first | exact htl) ?_))
    by_cases h2 : d.length < 1
    · refine Go.Ev.Fn.intro (fn := Tryz.f76) (body := (Tryz.f76).body.get!) (by kernel_rfl) (by kernel_rfl) (by kernel_rfl) (fun _ => rfl) (Nat.le_of_ble_eq_true (by kernel_rfl)) ?_; unfold Tryz.f76; simp only [Option.get!_some]
      repeat (first | (simp only [go_sem, mk_bs, bs_size]) | (simp (disch := (first | omega | (simp only [AL, List.length_map]; omega))) only [AR, AL, ifT, ifF, take_all, List.length_cons, List.length_nil, Int.reduceToNat, Int.reducePow, Nat.reducePow, mk_bs, bs_size]) | (refine wk_intro (by kernel_rfl) ?_) | (refine wq_no (by kernel_rfl) ?_) | (refine vf_of (by first | exact htl) ?_))
    by_cases h3 : d.length > 2
    · refine Go.Ev.Fn.intro (fn := Tryz.f76) (body := (Tryz.f76).body.get!) (by kernel_rfl) (by kernel_rfl) (by kernel_rfl) (fun _ => rfl) (Nat.le_of_ble_eq_true (by kernel_rfl)) ?_; unfold Tryz.f76; simp only [Option.get!_some]
      repeat (first | (simp only [go_sem, mk_bs, bs_size]) | (simp (disch := (first | omega | (simp only [AL, List.length_map]; omega))) only [AR, AL, ifT, ifF, take_all, List.length_cons, List.length_nil, Int.reduceToNat, Int.reducePow, Nat.reducePow, mk_bs, bs_size]) | (refine wk_intro (by kernel_rfl) ?_) | (refine wq_no (by kernel_rfl) ?_) | (refine vf_of (by first | exact htl) ?_))
    · have h4 : digs d = false := by
        rcases hc with h | h | h | h
        · exact absurd h h1
        · exact absurd h h2
        · exact absurd h h3
        · exact h
      rw [h4] at htd
      refine Go.Ev.Fn.intro (fn := Tryz.f76) (body := (Tryz.f76).body.get!) (by kernel_rfl) (by kernel_rfl) (by kernel_rfl) (fun _ => rfl) (Nat.le_of_ble_eq_true (by kernel_rfl)) ?_; unfold Tryz.f76; simp only [Option.get!_some]
      repeat (first | (simp only [go_sem, mk_bs, bs_size, bs_list, htd, Bool.not_false]) | (simp (disch := (first | omega | (simp only [AL, List.length_map]; omega))) only [AR, AL, ifT, ifF, take_all, List.length_cons, List.length_nil, Int.reduceToNat, Int.reducePow, Nat.reducePow, mk_bs, bs_size, bs_list, htd, Bool.not_false]) | (refine wk_intro (by kernel_rfl) ?_) | (refine wq_no (by kernel_rfl) ?_) | (refine vf_of (by first | exact htl | exact ht) ?_))
  · have e : expP l = if natD (l.dropWhile isPM) ≤ 30 then some (if l.head? = some 45 then - (natD (l.dropWhile isPM) : Int) else (natD (l.dropWhile isPM) : Int)) else none := by unfold expP; rw [if_neg hc]
    rw [e]
    clear e
    simp only [not_or, Nat.not_lt] at hc
    obtain ⟨h1, h2, h3, h4⟩ := hc
    have h4 : digs (l.dropWhile isPM) = true := by simpa using h4
    have ha := x_atoi (l := l) (by omega) (atoi_is (by omega) (by omega) h4)
    rw [h4] at htd
    have hn : natD (l.dropWhile isPM) < 100 := by
      have := natD_lt h4
      have h5 : 10 ^ (l.dropWhile isPM).length ≤ 10 ^ 2 := Nat.pow_le_pow_right (by omega) (by omega)
      omega
    generalize natD (l.dropWhile isPM) = n at *
    generalize hd : l.dropWhile isPM = d at *
    have hv : (if l.head? = some 45 then - (n : Int) else (n : Int)).natAbs = n := by split <;> omega
    generalize (if l.head? = some 45 then - (n : Int) else (n : Int)) = v at *
    have e1 : IntKind.i64.wrap (0 - v) = -v := by rw [wI64 (by omega)]; omega
    have e2 : (if -v > v then -v else v) = (n : Int) := by split <;> omega
    refine ⟨v, ?_, fun u hu => by
      split at hu
      · cases hu; omega
      · cases hu⟩
    by_cases hn30 : n ≤ 30
    · rw [if_pos hn30, Option.isSome_some]
      have e3 : decide ((n : Int) ≤ 30) = true := decide_eq_true (by omega)
      refine Go.Ev.Fn.intro (fn := Tryz.f76) (body := (Tryz.f76).body.get!) (by kernel_rfl) (by kernel_rfl) (by kernel_rfl) (fun _ => rfl) (Nat.le_of_ble_eq_true (by kernel_rfl)) ?_; unfold Tryz.f76; simp only [Option.get!_some]
      repeat (first | (simp only [go_sem, mk_bs, bs_size, bs_list, htd, Bool.not_true, isCst, e1, e2, e3]) | (simp (disch := (first | omega | (simp only [AL, List.length_map]; omega))) only [AR, AL, ifT, ifF, take_all, List.length_cons, List.length_nil, Int.reduceToNat, Int.reducePow, Nat.reducePow, mk_bs, bs_size, bs_list, htd, Bool.not_true, isCst, e1, e2, e3]) | (refine wk_intro (by kernel_rfl) ?_) | (refine wq_no (by kernel_rfl) ?_) | (refine vf_of (by first | exact htl | exact ht | exact ha) ?_))
    · rw [if_neg hn30, Option.isSome_none]
      have e3 : decide ((n : Int) ≤ 30) = false := decide_eq_false (by omega)
      refine Go.Ev.Fn.intro (fn := Tryz.f76) (body := (Tryz.f76).body.get!) (by kernel_rfl) (by kernel_rfl) (by kernel_rfl) (fun _ => rfl) (Nat.le_of_ble_eq_true (by kernel_rfl)) ?_; unfold Tryz.f76; simp only [Option.get!_some]
      repeat (first | (simp only [go_sem, mk_bs, bs_size, bs_list, htd, Bool.not_true, isCst, e1, e2, e3]) | (simp (disch := (first | omega | (simp only [AL, List.length_map]; omega))) only [AR, AL, ifT, ifF, take_all, List.length_cons, List.length_nil, Int.reduceToNat, Int.reducePow, Nat.reducePow, mk_bs, bs_size, bs_list, htd, Bool.not_true, isCst, e1, e2, e3]) | (refine wk_intro (by kernel_rfl) ?_) | (refine wq_no (by kernel_rfl) ?_) | (refine vf_of (by first | exact htl | exact ht | exact ha) ?_))
theorem sz_ten (k : Nat) (h : k ≤ 60) : szR ((10 : Rat) ^ k) 61 := by
  have e : ((10 : Rat) ^ k) = ((10 ^ k : Nat) : Rat) := by simp
  rw [e]
  refine ⟨?_, ?_⟩
  · have := pow_lim (k := k)
    simpa using Nat.le_trans this (by omega)
  · simp
    decide
theorem data_ten (n : Nat) (hn : n ≤ 60) : Go.Ev.Fn CX 79 [.int .i64 (n : Int)] (rv ((10 : Rat) ^ n)) := by
  have o1 := rat_Int 1 (by omega)
  have o10 := rat_Int 10 (by omega)
  have z10 : szR ((10 : Int) : Rat) 1 := ⟨by decide, by decide⟩
  refine Go.Ev.Fn.intro (fn := Tryz.f79) (body := (Tryz.f79).body.get!) (by kernel_rfl) (by kernel_rfl) (by kernel_rfl) (fun _ => rfl) (Nat.le_of_ble_eq_true (by kernel_rfl)) ?_; unfold Tryz.f79; simp only [Option.get!_some]
  repeat (first | (simp only [go_sem, rv, ratV]) | (simp (disch := (first | omega | (simp only [AL, List.length_map]; omega))) only [AR, AL, ifT, ifF, take_all, List.length_cons, List.length_nil, Int.reduceToNat, Int.reducePow, Nat.reducePow, rv, ratV]) | (refine wk_intro (by kernel_rfl) ?_) | (refine wq_no (by kernel_rfl) ?_) | (refine vp_draw (id := 4) (l := []) (by kernel_rfl) ?_) | (refine vf_of (by first | exact o1) ?_))
  refine vp_loop_inv (fun s => s.tmp 2 = .ptr 2 0 0 ∧ s.obj 2 0 = some [.bool false, .sl 0 [], .sl 0 []] ∧ s.tmp 3 = .ptr 3 0 0 ∧ s.tmp 5 = .sv (.int .i64 (n : Int)) ∧
      ∃ i : Nat, s.tmp 6 = .sv (.int .i64 (i : Int)) ∧ i ≤ n ∧ s.obj 3 0 = some (rvC ((10 : Rat) ^ i)))
    (fun s => match s.tmp 6 with | .sv (.int _ i) => n - i.toNat | _ => 0) ?_ ?_
  · have e0 : rvC ((10 : Rat) ^ 0) = [.bool false, natV (lim 1), natV (lim 1)] := by simp [rvC]
    exact ⟨rfl, rfl, rfl, rfl, 0, rfl, by omega, by rw [e0]; rfl⟩
  rintro s2 ⟨i2, o2, i3, i5, i, i6, hi, o3⟩
  by_cases hend : i = n
  · subst hend
    generalize (10 : Rat) ^ i = q at *
    repeat (first | (simp only [go_sem, i2, o2, i3, i5, i6, o3, rvC]) | (simp (disch := (first | omega | (simp only [AL, List.length_map]; omega))) only [AR, AL, ifT, ifF, take_all, List.length_cons, List.length_nil, Int.reduceToNat, Int.reducePow, Nat.reducePow, i2, o2, i3, i5, i6, o3, rvC]) | (refine wk_intro (by kernel_rfl) ?_) | (refine wq_no (by kernel_rfl) ?_) | (refine vp_draw (id := 4) (l := []) (by kernel_rfl) ?_))
    first | rfl | skip
  · have z := sz_ten i (by omega)
    have m := rat_Mul (RatA_rv z) (RatA_rv z10) (by omega) (by omega) (by omega)
    rw [show (10 : Rat) ^ i * ((10 : Int) : Rat) = (10 : Rat) ^ (i + 1) by rw [Rat.pow_succ]; rfl] at m
    generalize hp : (10 : Rat) ^ i = q at *
    generalize hp2 : (10 : Rat) ^ (i + 1) = q2 at *
    unfold rvC at o3
    unfold rv ratV at m o10
    repeat (first | (simp only [go_sem, i2, o2, i3, i5, i6, o3]) | (simp (disch := (first | omega | (simp only [AL, List.length_map]; omega))) only [AR, AL, ifT, ifF, take_all, List.length_cons, List.length_nil, Int.reduceToNat, Int.reducePow, Nat.reducePow, i2, o2, i3, i5, i6, o3]) | (refine wk_intro (by kernel_rfl) ?_) | (refine wq_no (by kernel_rfl) ?_) | (refine vp_draw (id := 4) (l := []) (by kernel_rfl) ?_) | (refine vf_of (by first | exact o10 | exact m) ?_))
    exact ⟨⟨i + 1, rfl, by omega, by rw [hp2]; rfl⟩, by omega⟩
def ratS (v : SV) : Prop := ∃ s n1 c1 n2 c2, v = .agg [.bool s, .sl n1 c1, .sl n2 c2]
theorem ratS_rv (q : Rat) : ratS (rv q) := ⟨_, _, _, _, _, rfl⟩
theorem szR_decP {l : List UInt8} {q : Rat} (h : decP l = some q) (hl : l.length ≤ 400) : szR q 401 := by
  have key : ∀ (s : Bool) (n d : Nat), (lim n).length ≤ 400 → (lim d).length ≤ 401 → szR (mkRat (sgn s n) d) 401 := fun s n d h1 h2 => szR_of (v := ratV s (lim n) (lim d)) ⟨s, lim n, lim d, rfl, okL_lim _, okL_lim _, by omega, h2, by rw [wth_lim, wth_lim]⟩ (by omega)
  have ha : (absP l).length ≤ 400 := by
    unfold absP
    split
    · rw [List.length_tail]; omega
    · exact hl
  unfold decP at h
  split at h
  · split at h
    · cases h
    · split at h
      · rename_i n m h1 h2
        cases h
        have := back_len (c := 46) (l := absP l)
        have h3 := pow_lim (k := (backL 46 (absP l)).length)
        exact key _ _ _ (parse_len h2) (by omega)
      · cases h
  · split at h
    · rename_i n d h1 h2
      split at h
      · cases h
      · cases h
        exact key _ _ _ (parse_len h1) (by have := parse_len h2; omega)
    · cases h
theorem str_Contains (l : List UInt8) (c : UInt8) : Go.Ev.Fn CX 77 [.str (bs l), .str (bs [c])] (.bool (l.contains c)) := by
  have hx := str_Index CX_str l c
  refine Go.Ev.Fn.intro (fn := Tryz.f77) (body := (Tryz.f77).body.get!) (by kernel_rfl) (by kernel_rfl) (by kernel_rfl) (fun _ => rfl) (Nat.le_of_ble_eq_true (by kernel_rfl)) ?_; unfold Tryz.f77; simp only [Option.get!_some]
  rcases index_cases c l with ⟨h1, h2, _⟩ | ⟨i, h1, h2, _⟩
  · rw [h2] at hx
    rw [h1]
    repeat (first | (simp only [go_sem]) | (simp (disch := (first | omega | (simp only [AL, List.length_map]; omega))) only [AR, AL, ifT, ifF, take_all, List.length_cons, List.length_nil, Int.reduceToNat, Int.reducePow, Nat.reducePow]) | (refine wk_intro (by kernel_rfl) ?_) | (refine wq_no (by kernel_rfl) ?_) | (refine vf_of (by first | exact hx) ?_))
    first | rfl | skip
  · rw [h2] at hx
    rw [h1]
    repeat (first | (simp only [go_sem]) | (simp (disch := (first | omega | (simp only [AL, List.length_map]; omega))) only [AR, AL, ifT, ifF, take_all, List.length_cons, List.length_nil, Int.reduceToNat, Int.reducePow, Nat.reducePow]) | (refine wk_intro (by kernel_rfl) ?_) | (refine wq_no (by kernel_rfl) ?_) | (refine vf_of (by first | exact hx) ?_))
    first | rfl | skip
set_option maxHeartbeats 2000000 in
theorem data_Number (l : List UInt8) (hl : l.length ≤ 1048576) : ∃ v, ratS v ∧ Go.Ev.Fn CX 54 [.str (bs l)] (.tup [v, .int .i64 ((numP l).1 : Int)]) ∧ ((numP l).1 = 0 → v = rv (numP l).2 ∧ szR (numP l).2 500) := by
  have o0 := rat_Int 0 (by omega)
  have s0 : ∀ e : Nat, e ≠ 0 → (e = 0 → rv ((0 : Int) : Rat) = rv (0 : Rat) ∧ szR 0 500) := fun e h1 h2 => absurd h2 h1
  by_cases h60 : 60 < l.length
  · have e : numP l = (3, 0) := by unfold numP; rw [if_pos h60]
    rw [e]
    refine ⟨_, ratS_rv ((0 : Int) : Rat), ?_, fun h => by cases h⟩
    unfold rv ratV at o0
    refine Go.Ev.Fn.intro (fn := Tryz.f54) (body := (Tryz.f54).body.get!) (by kernel_rfl) (by kernel_rfl) (by kernel_rfl) (fun _ => rfl) (Nat.le_of_ble_eq_true (by kernel_rfl)) ?_; unfold Tryz.f54; simp only [Option.get!_some]
    repeat (first | (simp only [go_sem, bs_size, rv, ratV]) | (simp (disch := (first | omega | (simp only [AL, List.length_map]; omega))) only [AR, AL, ifT, ifF, take_all, List.length_cons, List.length_nil, Int.reduceToNat, Int.reducePow, Nat.reducePow, bs_size, rv, ratV]) | (refine wk_intro (by kernel_rfl) ?_) | (refine wq_no (by kernel_rfl) ?_) | (refine vp_draw (id := 11) (l := []) (by kernel_rfl) ?_) | (refine vp_draw (id := 13) (l := []) (by kernel_rfl) ?_) | (refine vf_of (by first | exact o0) ?_))
    first | rfl | skip
  have c101 := str_Cut CX_str l 101 (by omega)
  have c47 := str_Contains l 47
  have f1 := front_len (c := 101) (l := l)
  have b1 := back_len (c := 101) (l := l)
  have hp := dec_Parse (frontL 101 l) (by omega)
  cases h101 : l.contains 101 with
  | false =>
    have hfr : frontL 101 l = l := by
      rcases index_cases 101 l with ⟨_, _, h, _⟩ | ⟨_, h, _⟩
      · exact h
      · rw [h101] at h; cases h
    rw [h101] at c101
    rw [hfr] at c101 hp
    cases hd : decP l with
    | some q =>
      have e : numP l = (0, q) := by unfold numP; rw [if_neg h60, h101, hd]; rfl
      have e2 : decPV l = .tup [rv q, .int .i64 0] := by unfold decPV; rw [hd]
      rw [e]
      rw [e2] at hp
      refine ⟨_, ratS_rv q, ?_, fun _ => ⟨rfl, ?_⟩⟩
      · unfold rv ratV at hp ⊢
        refine Go.Ev.Fn.intro (fn := Tryz.f54) (body := (Tryz.f54).body.get!) (by kernel_rfl) (by kernel_rfl) (by kernel_rfl) (fun _ => rfl) (Nat.le_of_ble_eq_true (by kernel_rfl)) ?_; unfold Tryz.f54; simp only [Option.get!_some]
        repeat (first | (simp only [go_sem, bs_size, mk_bs, Bool.not_false]) | (simp (disch := (first | omega | (simp only [AL, List.length_map]; omega))) only [AR, AL, ifT, ifF, take_all, List.length_cons, List.length_nil, Int.reduceToNat, Int.reducePow, Nat.reducePow, bs_size, mk_bs, Bool.not_false]) | (refine wk_intro (by kernel_rfl) ?_) | (refine wq_no (by kernel_rfl) ?_) | (refine vp_draw (id := 11) (l := []) (by kernel_rfl) ?_) | (refine vp_draw (id := 13) (l := []) (by kernel_rfl) ?_) | (refine vf_of (by first | exact c101 | exact hp) ?_))
        first | rfl | skip
      · have := szR_decP hd (by omega)
        exact ⟨by have := this.1; simp only; omega, by have := this.2; simp only; omega⟩
    | none =>
      have e : numP l = (2, 0) := by unfold numP; rw [if_neg h60, h101, hd]; rfl
      have e2 : decPV l = .tup [noR, .int .i64 2] := by unfold decPV; rw [hd]
      rw [e]
      rw [e2] at hp
      unfold noR at hp
      refine ⟨noR, ⟨_, _, _, _, _, rfl⟩, ?_, fun h => by cases h⟩
      unfold noR
      refine Go.Ev.Fn.intro (fn := Tryz.f54) (body := (Tryz.f54).body.get!) (by kernel_rfl) (by kernel_rfl) (by kernel_rfl) (fun _ => rfl) (Nat.le_of_ble_eq_true (by kernel_rfl)) ?_; unfold Tryz.f54; simp only [Option.get!_some]
      repeat (first | (simp only [go_sem, bs_size, mk_bs, Bool.not_false]) | (simp (disch := (first | omega | (simp only [AL, List.length_map]; omega))) only [AR, AL, ifT, ifF, take_all, List.length_cons, List.length_nil, Int.reduceToNat, Int.reducePow, Nat.reducePow, bs_size, mk_bs, Bool.not_false]) | (refine wk_intro (by kernel_rfl) ?_) | (refine wq_no (by kernel_rfl) ?_) | (refine vp_draw (id := 11) (l := []) (by kernel_rfl) ?_) | (refine vp_draw (id := 13) (l := []) (by kernel_rfl) ?_) | (refine vf_of (by first | exact c101 | exact hp) ?_))
      first | rfl | skip
  | true =>
    rw [h101] at c101
    obtain ⟨k, hk, hkv⟩ := data_exponent (backL 101 l) (by omega)
    cases hd : decP (frontL 101 l) with
    | none =>
      have e : numP l = (2, 0) := by unfold numP; rw [if_neg h60, h101, hd]; rfl
      have e2 : decPV (frontL 101 l) = .tup [noR, .int .i64 2] := by unfold decPV; rw [hd]
      rw [e]
      rw [e2] at hp
      unfold noR at hp
      refine ⟨_, ratS_rv ((0 : Int) : Rat), ?_, fun h => by cases h⟩
      unfold rv ratV at o0
      generalize (expP (backL 101 l)).isSome = bb at *
      refine Go.Ev.Fn.intro (fn := Tryz.f54) (body := (Tryz.f54).body.get!) (by kernel_rfl) (by kernel_rfl) (by kernel_rfl) (fun _ => rfl) (Nat.le_of_ble_eq_true (by kernel_rfl)) ?_; unfold Tryz.f54; simp only [Option.get!_some]
      repeat (first | (simp only [go_sem, bs_size, mk_bs, Bool.not_true, rv, ratV]) | (simp (disch := (first | omega | (simp only [AL, List.length_map]; omega))) only [AR, AL, ifT, ifF, take_all, List.length_cons, List.length_nil, Int.reduceToNat, Int.reducePow, Nat.reducePow, bs_size, mk_bs, Bool.not_true, rv, ratV]) | (refine wk_intro (by kernel_rfl) ?_) | (refine wq_no (by kernel_rfl) ?_) | (refine vp_draw (id := 11) (l := []) (by kernel_rfl) ?_) | (refine vp_draw (id := 13) (l := []) (by kernel_rfl) ?_) | (refine vf_of (by first | exact c101 | exact hp | exact hk | exact o0) ?_))
      first | rfl | skip
    | some q =>
      have e2 : decPV (frontL 101 l) = .tup [rv q, .int .i64 0] := by unfold decPV; rw [hd]
      rw [e2] at hp
      have zq := szR_decP hd (by omega)
      cases hx : expP (backL 101 l) with
      | none =>
        have e : numP l = (2, 0) := by unfold numP; rw [if_neg h60, h101, hd, hx]; rfl
        rw [e]
        rw [hx, Option.isSome_none] at hk
        refine ⟨_, ratS_rv ((0 : Int) : Rat), ?_, fun h => by cases h⟩
        unfold rv ratV at o0 hp
        refine Go.Ev.Fn.intro (fn := Tryz.f54) (body := (Tryz.f54).body.get!) (by kernel_rfl) (by kernel_rfl) (by kernel_rfl) (fun _ => rfl) (Nat.le_of_ble_eq_true (by kernel_rfl)) ?_; unfold Tryz.f54; simp only [Option.get!_some]
        repeat (first | (simp only [go_sem, bs_size, mk_bs, Bool.not_true, Bool.not_false, rv, ratV]) | (simp (disch := (first | omega | (simp only [AL, List.length_map]; omega))) only [AR, AL, ifT, ifF, take_all, List.length_cons, List.length_nil, Int.reduceToNat, Int.reducePow, Nat.reducePow, bs_size, mk_bs, Bool.not_true, Bool.not_false, rv, ratV]) | (refine wk_intro (by kernel_rfl) ?_) | (refine wq_no (by kernel_rfl) ?_) | (refine vp_draw (id := 11) (l := []) (by kernel_rfl) ?_) | (refine vp_draw (id := 13) (l := []) (by kernel_rfl) ?_) | (refine vf_of (by first | exact c101 | exact hp | exact hk | exact o0) ?_))
        first | rfl | skip
      | some v =>
        obtain ⟨rfl, hk1, hk2⟩ := hkv v hx
        rw [hx, Option.isSome_some] at hk
        cases h47 : l.contains 47 with
        | true =>
          have e : numP l = (2, 0) := by unfold numP; rw [if_neg h60, h101, hd, hx, h47]; rfl
          rw [e]
          rw [h47] at c47
          refine ⟨_, ratS_rv ((0 : Int) : Rat), ?_, fun h => by cases h⟩
          unfold rv ratV at o0 hp
          refine Go.Ev.Fn.intro (fn := Tryz.f54) (body := (Tryz.f54).body.get!) (by kernel_rfl) (by kernel_rfl) (by kernel_rfl) (fun _ => rfl) (Nat.le_of_ble_eq_true (by kernel_rfl)) ?_; unfold Tryz.f54; simp only [Option.get!_some]
          repeat (first | (simp only [go_sem, bs_size, mk_bs, Bool.not_true, rv, ratV]) | (simp (disch := (first | omega | (simp only [AL, List.length_map]; omega))) only [AR, AL, ifT, ifF, take_all, List.length_cons, List.length_nil, Int.reduceToNat, Int.reducePow, Nat.reducePow, bs_size, mk_bs, Bool.not_true, rv, ratV]) | (refine wk_intro (by kernel_rfl) ?_) | (refine wq_no (by kernel_rfl) ?_) | (refine vp_draw (id := 11) (l := []) (by kernel_rfl) ?_) | (refine vp_draw (id := 13) (l := []) (by kernel_rfl) ?_) | (refine vf_of (by first | exact c101 | exact hp | exact hk | exact c47 | exact o0) ?_))
          first | rfl | skip
        | false =>
          have e : numP l = (0, q * tenR v) := by unfold numP; rw [if_neg h60, h101, hd, hx, h47]; rfl
          rw [e]
          rw [h47] at c47
          have ht := data_ten v.natAbs (by omega)
          have zt := sz_ten v.natAbs (by omega)
          by_cases hneg : v < 0
          · have e5 : tenR v = 1 / (10 : Rat) ^ v.natAbs := by unfold tenR; rw [if_pos hneg]
            have hm := rat_Div (RatA_rv zq) (RatA_rv zt) (by omega) (by omega) (by omega)
            have e6 : q / (10 : Rat) ^ v.natAbs = q * tenR v := by rw [e5, Rat.div_def, Rat.div_def, Rat.one_mul]
            have zd := szR_div zq zt (by omega) (by omega)
            rw [e6] at hm zd
            refine ⟨_, ratS_rv (q * tenR v), ?_, fun _ => ⟨rfl, ⟨by have := zd.1; simp only; omega, by have := zd.2; simp only; omega⟩⟩⟩
            have e7 : (v.natAbs : Int) = 0 - v := by omega
            rw [e7] at ht
            generalize (10 : Rat) ^ v.natAbs = t at *
            generalize q * tenR v = r at *
            unfold rv ratV at o0 hp hm ⊢
            refine Go.Ev.Fn.intro (fn := Tryz.f54) (body := (Tryz.f54).body.get!) (by kernel_rfl) (by kernel_rfl) (by kernel_rfl) (fun _ => rfl) (Nat.le_of_ble_eq_true (by kernel_rfl)) ?_; unfold Tryz.f54; simp only [Option.get!_some]
            repeat (first | (simp only [go_sem, bs_size, mk_bs, Bool.not_true]) | (simp (disch := (first | omega | (simp only [AL, List.length_map]; omega))) only [AR, AL, ifT, ifF, take_all, List.length_cons, List.length_nil, Int.reduceToNat, Int.reducePow, Nat.reducePow, bs_size, mk_bs, Bool.not_true]) | (refine wk_intro (by kernel_rfl) ?_) | (refine wq_no (by kernel_rfl) ?_) | (refine vp_draw (id := 11) (l := []) (by kernel_rfl) ?_) | (refine vp_draw (id := 13) (l := []) (by kernel_rfl) ?_) | (refine vf_of (by first | exact c101 | exact hp | exact hk | exact c47) ?_))
            repeat (first | (simp only [go_sem, rv, ratV]) | (simp (disch := (first | omega | (simp only [AL, List.length_map]; omega))) only [AR, AL, ifT, ifF, take_all, List.length_cons, List.length_nil, Int.reduceToNat, Int.reducePow, Nat.reducePow, rv, ratV]) | (refine wk_intro (by kernel_rfl) ?_) | (refine wq_no (by kernel_rfl) ?_) | (refine vp_draw (id := 11) (l := []) (by kernel_rfl) ?_) | (refine vp_draw (id := 13) (l := []) (by kernel_rfl) ?_) | (refine vf_of (by first | exact ht | exact hm) ?_))
            first | rfl | skip
          · have e5 : tenR v = (10 : Rat) ^ v.natAbs := by unfold tenR; rw [if_neg hneg]
            have hm := rat_Mul (RatA_rv zq) (RatA_rv zt) (by omega) (by omega) (by omega)
            have zd := szR_mul zq zt (by omega)
            rw [e5]
            refine ⟨_, ratS_rv (q * (10 : Rat) ^ v.natAbs), ?_, fun _ => ⟨rfl, ⟨by have := zd.1; simp only; omega, by have := zd.2; simp only; omega⟩⟩⟩
            have e7 : v = (v.natAbs : Int) := by omega
            generalize (10 : Rat) ^ v.natAbs = t at *
            generalize q * t = r at *
            generalize hm' : v.natAbs = m at *
            subst e7
            unfold rv ratV at o0 hp hm ⊢
            refine Go.Ev.Fn.intro (fn := Tryz.f54) (body := (Tryz.f54).body.get!) (by kernel_rfl) (by kernel_rfl) (by kernel_rfl) (fun _ => rfl) (Nat.le_of_ble_eq_true (by kernel_rfl)) ?_; unfold Tryz.f54; simp only [Option.get!_some]
            repeat (first | (simp only [go_sem, bs_size, mk_bs, Bool.not_true]) | (simp (disch := (first | omega | (simp only [AL, List.length_map]; omega))) only [AR, AL, ifT, ifF, take_all, List.length_cons, List.length_nil, Int.reduceToNat, Int.reducePow, Nat.reducePow, bs_size, mk_bs, Bool.not_true]) | (refine wk_intro (by kernel_rfl) ?_) | (refine wq_no (by kernel_rfl) ?_) | (refine vp_draw (id := 11) (l := []) (by kernel_rfl) ?_) | (refine vp_draw (id := 13) (l := []) (by kernel_rfl) ?_) | (refine vf_of (by first | exact c101 | exact hp | exact hk | exact c47) ?_))
            repeat (first | (simp only [go_sem, rv, ratV]) | (simp (disch := (first | omega | (simp only [AL, List.length_map]; omega))) only [AR, AL, ifT, ifF, take_all, List.length_cons, List.length_nil, Int.reduceToNat, Int.reducePow, Nat.reducePow, rv, ratV]) | (refine wk_intro (by kernel_rfl) ?_) | (refine wq_no (by kernel_rfl) ?_) | (refine vp_draw (id := 11) (l := []) (by kernel_rfl) ?_) | (refine vp_draw (id := 13) (l := []) (by kernel_rfl) ?_) | (refine vf_of (by first | exact ht | exact hm) ?_))
            first | rfl | skip
end Go.Proofs.YticocojomlfhgaaGreatDoor
namespace Go.Proofs.YticocojomlfhgaaGreatDoor
open Go.Ev
def ngB (b : UInt8) : Bool := !gapB b
theorem toks_skip (r : List UInt8) : toks [] r = toks [] (r.dropWhile gapB) := by
  induction r with
  | nil => rfl
  | cons b r ih =>
    rw [List.dropWhile_cons]
    cases h : gapB b with
    | true =>
      rw [toks, h]
      simpa using ih
    | false => rfl
theorem toks_cut {b : UInt8} {r : List UInt8} (hb : gapB b = false) : toks [] (b :: r) = (b :: r).takeWhile ngB :: toks [] ((b :: r).dropWhile ngB) := by
  have key : ∀ (r cur : List UInt8), cur ≠ [] → toks cur r = (cur.reverse ++ r.takeWhile ngB) :: toks [] (r.dropWhile ngB) := by
    intro r
    induction r with
    | nil => intro cur hc; simp [toks, hc]
    | cons x r ih =>
      intro cur hc
      rw [toks, List.takeWhile_cons, List.dropWhile_cons]
      unfold ngB
      cases hx : gapB x with
      | true =>
        simp only [if_true, Bool.not_true, Bool.false_eq_true, if_false, List.append_nil]
        rw [if_neg hc, toks, hx]
        simp
      | false =>
        simp only [Bool.false_eq_true, if_false, Bool.not_false, if_true]
        rw [ih (x :: cur) (by simp)]
        unfold ngB
        simp
  rw [toks, hb]
  simp only [Bool.false_eq_true, if_false]
  rw [key r [b] (by simp), List.takeWhile_cons, List.dropWhile_cons]
  unfold ngB
  simp [hb]
def runA (qs : List Rat) (ts : List (List UInt8)) : Nat × List Rat := match runP ts with
  | (0, l) => (0, qs ++ l)
  | (e, _) => (e, [])
theorem runA_nil (qs : List Rat) : runA qs [] = (0, qs) := by simp [runA, runP]
theorem runA_cons_ok {qs : List Rat} {t : List UInt8} {r : List (List UInt8)} (h : (numP t).1 = 0) : runA qs (t :: r) = runA (qs ++ [(numP t).2]) r := by
  unfold runA
  rw [runP]
  cases hq : numP t with
  | mk e q =>
    rw [hq] at h
    cases h
    dsimp only
    cases runP r with
    | mk e2 l =>
      cases e2 with
      | zero => simp
      | succ n => rfl
theorem runA_cons_bad {qs : List Rat} {t : List UInt8} {r : List (List UInt8)} (h : (numP t).1 ≠ 0) : runA qs (t :: r) = ((numP t).1, []) := by
  unfold runA
  rw [runP]
  cases hq : numP t with
  | mk e q =>
    rw [hq] at h
    cases e with
    | zero => exact absurd rfl h
    | succ n => rfl
def finP (r : Nat × List Rat) : Nat × List Rat := match r with
  | (0, x) => if 256 < x.length then (3, []) else (0, x)
  | (e, _) => (e, [])
theorem parse_runA (l : List UInt8) : parseP l = finP (runA [] (toks [] (plainL false l))) := by
  unfold parseP runA finP
  cases runP (toks [] (plainL false l)) with
  | mk e x => cases e <;> rfl
theorem runP_sz : ∀ {ts : List (List UInt8)}, ∀ q ∈ (runP ts).2, szR q 500 := by
  intro ts
  induction ts with
  | nil => intro q hq; simp [runP] at hq
  | cons t r ih =>
    intro q hq
    unfold runP at hq
    split at hq
    · rename_i q0 hq0
      split at hq
      · rename_i l0 hl0
        rcases List.mem_cons.1 hq with h | h
        · subst h
          have ht : ¬ 60 < t.length := fun h60 => by
            have : numP t = (3, 0) := by unfold numP; rw [if_pos h60]
            rw [this] at hq0
            cases hq0
          obtain ⟨v, _, _, h⟩ := data_Number t (by omega)
          rw [hq0] at h
          exact (h rfl).2
        · rw [hl0] at ih
          exact ih q h
      · simp at hq
    · simp at hq
theorem parse_sz {l : List UInt8} : ∀ q ∈ (parseP l).2, szR q 500 := by
  intro q hq
  unfold parseP at hq
  split at hq
  · rename_i x hx
    split at hq
    · simp at hq
    · have := runP_sz (ts := toks [] (plainL false l)) q
      rw [hx] at this
      exact this hq
  · simp at hq
theorem gap_index (b : UInt8) : ∃ z : Int, Lib.indexByte [32, 44, 10] b = z ∧ -1 ≤ z ∧ z < 3 ∧ (gapB b = true → 0 ≤ z) ∧ (gapB b = false → z < 0) := by
  refine ⟨_, rfl, ?_⟩
  have key : ∀ n : Nat, n < 256 → (-1 ≤ Lib.indexByte [32, 44, 10] (UInt8.ofNat n) ∧ Lib.indexByte [32, 44, 10] (UInt8.ofNat n) < 3 ∧ (gapB (UInt8.ofNat n) = true → 0 ≤ Lib.indexByte [32, 44, 10] (UInt8.ofNat n)) ∧ (gapB (UInt8.ofNat n) = false → Lib.indexByte [32, 44, 10] (UInt8.ofNat n) < 0)) := by decide
  have := key b.toNat b.toNat_lt
  rwa [UInt8.ofNat_toNat] at this
theorem str_IndexByte (s : List UInt8) (b : UInt8) : Go.Ev.Fn CX 40 [.str (bs s), .int .u8 (b.toNat : Int)] (.int .i64 (Lib.indexByte s b)) := by
  have h := lite_IndexByte CX_str (bs s) b
  rw [bs_toList] at h
  refine Go.Ev.Fn.intro (fn := Tryz.f40) (body := (Tryz.f40).body.get!) (by kernel_rfl) (by kernel_rfl) (by kernel_rfl) (fun _ => rfl) (Nat.le_of_ble_eq_true (by kernel_rfl)) ?_; unfold Tryz.f40; simp only [Option.get!_some]
  simp only [go_sem]
  refine vf_of (h) ?_; simp only [go_sem]
theorem rvsC_app (l : List Rat) (q : Rat) : rvsC (l ++ [q]) = rvsC l ++ rvC q := by unfold rvsC; simp
set_option maxHeartbeats 4000000 in
theorem data_Parse (l : List UInt8) (hl : l.length ≤ 100000) : Go.Ev.Fn CX 37 [.str (bs l)] (.tup [.sl (parseP l).2.length (rvsC (parseP l).2), .int .i64 ((parseP l).1 : Int)]) := by
  have hp := data_plain l (by omega)
  have hPl := plain_len l false
  rw [parse_runA]
  generalize plainL false l = P at *
  generalize hres : runA [] (toks [] P) = res at *
  refine Go.Ev.Fn.intro (fn := Tryz.f37) (body := (Tryz.f37).body.get!) (by kernel_rfl) (by kernel_rfl) (by kernel_rfl) (fun _ => rfl) (Nat.le_of_ble_eq_true (by kernel_rfl)) ?_; unfold Tryz.f37; simp only [Option.get!_some]
  repeat (first | (simp only [go_sem, mk_bs]) | (simp (disch := (first | omega | (simp only [AL, List.length_map]; omega))) only [AR, AL, ifT, ifF, take_all, List.length_cons, List.length_nil, Int.reduceToNat, Int.reducePow, Nat.reducePow, mk_bs]) | (refine wk_intro (by kernel_rfl) ?_) | (refine wq_no (by kernel_rfl) ?_) | (refine vf_of (by first | exact hp) ?_))
  refine vp_ind (fun s => s.tmp 0 = .sv (.str (bs P)) ∧ ∃ (i : Nat) (qs : List Rat), s.tmp 5 = .sv (.int .i64 (i : Int)) ∧ i ≤ P.length ∧ qs.length ≤ i ∧ runA qs (toks [] (P.drop i)) = res ∧
      ((qs = [] ∧ s.tmp 4 = .nil ∧ s.gen 56 = 0) ∨ (qs ≠ [] ∧ s.tmp 4 = .ref 56 0 3 0 qs.length ∧ s.obj 56 0 = some (rvsC qs))))
    (fun s => match s.tmp 5 with | .sv (.int _ i) => P.length - i.toNat | _ => 0) ?_ ?_
  · exact ⟨rfl, 0, [], rfl, by omega, by simp, hres, .inl ⟨rfl, rfl, rfl⟩⟩
  rintro s2 ⟨i0, i, qs, i5, hi, hq, hr, hc⟩ ih
  have hμ : (match s2.tmp 5 with | .sv (.int _ i) => P.length - i.toNat | _ => 0) = P.length - i := by rw [i5]; simp
  rw [hμ] at ih
  refine vp_loop_inv (fun s => s.tmp 0 = .sv (.str (bs P)) ∧ s.tmp 4 = s2.tmp 4 ∧ s.gen 56 = s2.gen 56 ∧ s.obj 56 0 = s2.obj 56 0 ∧
      ∃ j : Nat, s.tmp 5 = .sv (.int .i64 (j : Int)) ∧ i ≤ j ∧ j ≤ P.length ∧ (P.drop j).dropWhile gapB = (P.drop i).dropWhile gapB)
    (fun s => match s.tmp 5 with | .sv (.int _ j) => P.length - j.toNat | _ => 0) ?_ ?_
  · exact ⟨i0, rfl, rfl, rfl, i, i5, by omega, hi, rfl⟩
  rintro s3 ⟨j0, j4, jg, jo, j, j5, hij, hj, hdw⟩
  by_cases hend : j = P.length
  · have hnil : (P.drop i).dropWhile gapB = [] := by rw [← hdw, hend, List.drop_length]; rfl
    rw [toks_skip, hnil, show toks [] ([] : List UInt8) = [] from rfl, runA_nil] at hr
    subst hend
    by_cases hbig : 256 < qs.length
    · have e : finP res = (3, []) := by rw [← hr]; unfold finP; simp only; rw [if_pos hbig]
      rw [e]
      rcases hc with ⟨rfl, _⟩ | ⟨_, i4, iO⟩
      · simp at hbig
      · rw [i4] at j4
        repeat (first | (simp only [go_sem, j0, j4, j5, bs_size]) | (simp (disch := (first | omega | (simp only [AL, List.length_map]; omega))) only [AR, AL, ifT, ifF, take_all, List.length_cons, List.length_nil, Int.reduceToNat, Int.reducePow, Nat.reducePow, j0, j4, j5, bs_size]) | (refine wk_intro (by kernel_rfl) ?_) | (refine wq_no (by kernel_rfl) ?_))
        exact ⟨rfl, rfl⟩
    · have e : finP res = (0, qs) := by rw [← hr]; unfold finP; simp only; rw [if_neg hbig]
      rw [e]
      rcases hc with ⟨rfl, i4, _⟩ | ⟨_, i4, iO⟩
      · rw [i4] at j4
        repeat (first | (simp only [go_sem, j0, j4, j5, bs_size]) | (simp (disch := (first | omega | (simp only [AL, List.length_map]; omega))) only [AR, AL, ifT, ifF, take_all, List.length_cons, List.length_nil, Int.reduceToNat, Int.reducePow, Nat.reducePow, j0, j4, j5, bs_size]) | (refine wk_intro (by kernel_rfl) ?_) | (refine wq_no (by kernel_rfl) ?_))
        exact ⟨rfl, rfl⟩
      · rw [i4] at j4
        rw [iO] at jo
        have hrl := rvsC_len qs
        have ht : (rvsC qs).take (qs.length * 3) = rvsC qs := List.take_of_length_le (by omega)
        repeat (first | (simp only [go_sem, j0, j4, j5, bs_size]) | (simp (disch := (first | omega | (simp only [AL, List.length_map]; omega))) only [AR, AL, ifT, ifF, take_all, List.length_cons, List.length_nil, Int.reduceToNat, Int.reducePow, Nat.reducePow, j0, j4, j5, bs_size]) | (refine wk_intro (by kernel_rfl) ?_) | (refine wq_no (by kernel_rfl) ?_))
        refine ⟨ro_ref (cs := rvsC qs) (by decide) ?_ ?_, rfl⟩
        · simp only [go_sem, jo]
        · rw [List.drop_zero, ht]
  · have hlt : j < P.length := by omega
    have hg : P[j]? = some P[j] := List.getElem?_eq_getElem hlt
    have hdr : P.drop j = P[j] :: P.drop (j + 1) := List.drop_eq_getElem_cons hlt
    obtain ⟨z, hz0, hz1, hz2, hz3, hz4⟩ := gap_index P[j]
    have hx := str_IndexByte [32, 44, 10] P[j]
    rw [hz0] at hx
    cases hgap : gapB P[j] with
    | true =>
      have hz5 := hz3 hgap
      have hdw2 : (P.drop (j + 1)).dropWhile gapB = (P.drop i).dropWhile gapB := by
        rw [← hdw, hdr, List.dropWhile_cons, hgap]
        rfl
      clear hdr
      generalize P[j] = b at *
      repeat (first | (simp only [go_sem, j0, j4, j5, bs_size, vo_ix, idxB_bs, hg, mk_bs, jg, jo]) | (simp (disch := (first | omega | (simp only [AL, List.length_map]; omega))) only [AR, AL, ifT, ifF, take_all, List.length_cons, List.length_nil, Int.reduceToNat, Int.reducePow, Nat.reducePow, j0, j4, j5, bs_size, vo_ix, idxB_bs, hg, mk_bs, jg, jo]) | (refine wk_intro (by kernel_rfl) ?_) | (refine wq_no (by kernel_rfl) ?_) | (refine vf_of (by first | exact hx) ?_))
      exact ⟨⟨j + 1, rfl, by omega, by omega, hdw2⟩, by omega⟩
    | false =>
      have hz5 := hz4 hgap
      have hself : (P.drop j).dropWhile gapB = P.drop j := by rw [hdr, List.dropWhile_cons, hgap]; rfl
      rw [hself] at hdw
      rw [toks_skip, ← hdw] at hr
      have hcut := toks_cut (r := P.drop (j + 1)) hgap
      rw [← hdr] at hcut
      rw [hcut] at hr
      clear hdr hcut hself hdw
      have hng : ngB P[j] = true := by unfold ngB; rw [hgap]; rfl
      repeat (first | (simp only [go_sem, j0, j4, j5, bs_size, vo_ix, idxB_bs, hg, mk_bs, jg, jo]) | (simp (disch := (first | omega | (simp only [AL, List.length_map]; omega))) only [AR, AL, ifT, ifF, take_all, List.length_cons, List.length_nil, Int.reduceToNat, Int.reducePow, Nat.reducePow, j0, j4, j5, bs_size, vo_ix, idxB_bs, hg, mk_bs, jg, jo]) | (refine wk_intro (by kernel_rfl) ?_) | (refine wq_no (by kernel_rfl) ?_) | (refine vf_of (by first | exact hx) ?_))
      refine vp_loop_inv (fun s => s.tmp 0 = .sv (.str (bs P)) ∧ s.tmp 4 = s3.tmp 4 ∧ s.gen 56 = s3.gen 56 ∧ s.obj 56 0 = s3.obj 56 0 ∧ s.tmp 5 = .sv (.int .i64 (j : Int)) ∧
          ∃ k : Nat, s.tmp 6 = .sv (.int .i64 (k : Int)) ∧ j ≤ k ∧ k ≤ P.length ∧ (P.drop j).takeWhile ngB = (P.drop j).take (k - j) ++ (P.drop k).takeWhile ngB ∧ (P.drop j).dropWhile ngB = (P.drop k).dropWhile ngB)
        (fun s => match s.tmp 6 with | .sv (.int _ k) => P.length - k.toNat | _ => 0) ?_ ?_
      · exact ⟨j0, rfl, rfl, rfl, j5, j, rfl, by omega, hj, by simp, rfl⟩
      rintro s4 ⟨k0, k4, kg, ko, k5, k, k6, hjk, hk, htw, hdw⟩
      have kk : s4.tmp 4 = s2.tmp 4 := k4.trans j4
      have kkg : s4.gen 56 = s2.gen 56 := kg.trans jg
      have kko : s4.obj 56 0 = s2.obj 56 0 := ko.trans jo
      have stop : (k = P.length ∨ ∃ hkl : k < P.length, gapB P[k] = true) → (P.drop k).takeWhile ngB = [] ∧ (P.drop k).dropWhile ngB = P.drop k ∧ j < k := by
        rintro (h | ⟨hkl, h⟩)
        · rw [h, List.drop_length]
          exact ⟨rfl, rfl, by omega⟩
        · rw [List.drop_eq_getElem_cons hkl, List.takeWhile_cons, List.dropWhile_cons]
          have e : ngB P[k] = false := by unfold ngB; rw [h]; rfl
          rw [e]
          refine ⟨rfl, rfl, ?_⟩
          rcases Nat.lt_or_ge j k with h1 | h1
          · exact h1
          · have : k = j := by omega
            subst this
            rw [hgap] at h
            cases h
      have done : (k = P.length ∨ ∃ hkl : k < P.length, gapB P[k] = true) → j < k ∧ ∃ w, w = (P.drop j).take (k - j) ∧ w.length ≤ 100000 ∧ runA qs (w :: toks [] (P.drop k)) = res := by
        intro h
        obtain ⟨h1, h2, h3⟩ := stop h
        refine ⟨h3, _, rfl, by rw [List.length_take]; omega, ?_⟩
        rw [h1, List.append_nil] at htw
        rw [htw, hdw, h2] at hr
        exact hr
      have fin : ∀ w : List UInt8, runA qs (w :: toks [] (P.drop k)) = res → ((numP w).1 ≠ 0 → finP res = ((numP w).1, [])) ∧ ((numP w).1 = 0 → runA (qs ++ [(numP w).2]) (toks [] (P.drop k)) = res) := by
        intro w hw
        refine ⟨fun h => ?_, fun h => ?_⟩
        · rw [runA_cons_bad h] at hw
          rw [← hw]
          cases hn : (numP w).1 with
          | zero => exact absurd hn h
          | succ n => rfl
        · rw [runA_cons_ok h] at hw
          exact hw
      have go : ∀ (w : List UInt8), j < k → w = (P.drop j).take (k - j) → w.length ≤ 100000 → runA qs (w :: toks [] (P.drop k)) = res →
          (∃ v, ratS v ∧ Go.Ev.Fn CX 54 [.str (bs w)] (.tup [v, .int .i64 ((numP w).1 : Int)]) ∧ ((numP w).1 = 0 → v = rv (numP w).2)) := by
        intro w _ _ hw _
        obtain ⟨v, h1, h2, h3⟩ := data_Number w (by omega)
        exact ⟨v, h1, h2, fun h => (h3 h).1⟩
      by_cases hke : k = P.length
      · obtain ⟨hjk', w, hw, hwl, hrw⟩ := done (.inl hke)
        have hw' : (P.drop j).take (k - j) = w := hw.symm
        obtain ⟨v, ⟨sg, n1, c1, n2, c2, rfl⟩, hN, hv⟩ := go w hjk' hw hwl hrw
        obtain ⟨f1, f2⟩ := fin w hrw
        by_cases hm : (numP w).1 = 0
        · have f3 := f2 hm
          rw [hv hm, hm] at hN
          generalize (numP w).2 = q at *
          have hap := rvsC_app qs q
          have hrl := rvsC_len qs
          clear go fin done stop hx hv f1 f2
          unfold rv ratV at hN
          rcases hc with ⟨rfl, i4, ig⟩ | ⟨hq0, i4, iO⟩
          · rw [i4] at kk
            rw [ig] at kkg
            repeat (first | (simp only [go_sem, k0, k5, k6, bs_size, mk_bs, bs_extract, hw', kk, kkg]) | (simp (disch := (first | omega | (simp only [AL, List.length_map]; omega))) only [AR, AL, ifT, ifF, take_all, List.length_cons, List.length_nil, Int.reduceToNat, Int.reducePow, Nat.reducePow, k0, k5, k6, bs_size, mk_bs, bs_extract, hw', kk, kkg]) | (refine wk_intro (by kernel_rfl) ?_) | (refine wq_no (by kernel_rfl) ?_) | (refine vf_of (by first | exact hN) ?_))
            refine sc_goto (by exact rfl) ?_
            simp only [go_sem]
            refine ih _ ⟨?_, k, [q], ?_, by omega, by simp; omega, f3, .inr ⟨by simp, ?_, ?_⟩⟩ ?_
            · simp only [go_sem, k0, kk, kkg]
            · simp only [go_sem, k6]
            · simp only [go_sem, kk, kkg]
              first | rfl | skip
            · simp only [go_sem, kk, kkg]
              first | rfl | skip
            · simp only [go_sem, k6]
              simp
              omega
          · rw [i4] at kk
            rw [iO] at kko
            unfold rvC at hap
            repeat (first | (simp only [go_sem, k0, k5, k6, bs_size, mk_bs, bs_extract, hw', kk, kko, N0, hrl]) | (simp (disch := (first | omega | (simp only [AL, List.length_map]; omega))) only [AR, AL, ifT, ifF, take_all, List.length_cons, List.length_nil, Int.reduceToNat, Int.reducePow, Nat.reducePow, k0, k5, k6, bs_size, mk_bs, bs_extract, hw', kk, kko, N0, hrl]) | (refine wk_intro (by kernel_rfl) ?_) | (refine wq_no (by kernel_rfl) ?_) | (refine vf_of (by first | exact hN) ?_))
            refine sc_goto (by exact rfl) ?_
            simp only [go_sem]
            refine ih _ ⟨?_, k, qs ++ [q], ?_, by omega, by simp; omega, f3, .inr ⟨by simp, ?_, ?_⟩⟩ ?_
            · simp only [go_sem, k0, kk, kko, hrl]
            · simp only [go_sem, k6]
            · simp only [go_sem, kk, kko, List.length_append]
              first | rfl | skip
            · simp only [go_sem, kk, kko, hap]
              first | rfl | skip
            · simp only [go_sem, k6]
              simp
              omega
        · rw [f1 hm]
          generalize (numP w).1 = m at *
          clear go fin done stop hx hv f1 f2
          repeat (first | (simp only [go_sem, k0, k5, k6, bs_size, mk_bs, bs_extract, hw']) | (simp (disch := (first | omega | (simp only [AL, List.length_map]; omega))) only [AR, AL, ifT, ifF, take_all, List.length_cons, List.length_nil, Int.reduceToNat, Int.reducePow, Nat.reducePow, k0, k5, k6, bs_size, mk_bs, bs_extract, hw']) | (refine wk_intro (by kernel_rfl) ?_) | (refine wq_no (by kernel_rfl) ?_) | (refine vf_of (by first | exact hN) ?_))
          first | exact ⟨rfl, rfl⟩ | rfl | skip
      · have hkl : k < P.length := by omega
        have hgk : P[k]? = some P[k] := List.getElem?_eq_getElem hkl
        obtain ⟨y, hy0, hy1, hy2, hy3, hy4⟩ := gap_index P[k]
        have hyx := str_IndexByte [32, 44, 10] P[k]
        rw [hy0] at hyx
        cases hgapk : gapB P[k] with
        | true =>
          have hy5 := hy3 hgapk
          obtain ⟨hjk', w, hw, hwl, hrw⟩ := done (.inr ⟨hkl, hgapk⟩)
          have hw' : (P.drop j).take (k - j) = w := hw.symm
          clear hy3 hy4
          generalize P[k] = b at *
          obtain ⟨v, ⟨sg, n1, c1, n2, c2, rfl⟩, hN, hv⟩ := go w hjk' hw hwl hrw
          obtain ⟨f1, f2⟩ := fin w hrw
          by_cases hm : (numP w).1 = 0
          · have f3 := f2 hm
            rw [hv hm, hm] at hN
            generalize (numP w).2 = q at *
            have hap := rvsC_app qs q
            have hrl := rvsC_len qs
            clear go fin done stop hx hv f1 f2
            unfold rv ratV at hN
            rcases hc with ⟨rfl, i4, ig⟩ | ⟨hq0, i4, iO⟩
            · rw [i4] at kk
              rw [ig] at kkg
              repeat (first | (simp only [go_sem, k0, k5, k6, bs_size, mk_bs, bs_extract, vo_ix, idxB_bs, hgk, hw', kk, kkg]) | (simp (disch := (first | omega | (simp only [AL, List.length_map]; omega))) only [AR, AL, ifT, ifF, take_all, List.length_cons, List.length_nil, Int.reduceToNat, Int.reducePow, Nat.reducePow, k0, k5, k6, bs_size, mk_bs, bs_extract, vo_ix, idxB_bs, hgk, hw', kk, kkg]) | (refine wk_intro (by kernel_rfl) ?_) | (refine wq_no (by kernel_rfl) ?_) | (refine vf_of (by first | exact hyx | exact hN) ?_))
              refine sc_goto (by exact rfl) ?_
              simp only [go_sem]
              refine ih _ ⟨?_, k, [q], ?_, by omega, by simp; omega, f3, .inr ⟨by simp, ?_, ?_⟩⟩ ?_
              · simp only [go_sem, k0, kk, kkg]
              · simp only [go_sem, k6]
              · simp only [go_sem, kk, kkg]
                first | rfl | skip
              · simp only [go_sem, kk, kkg]
                first | rfl | skip
              · simp only [go_sem, k6]
                simp
                omega
            · rw [i4] at kk
              rw [iO] at kko
              unfold rvC at hap
              repeat (first | (simp only [go_sem, k0, k5, k6, bs_size, mk_bs, bs_extract, vo_ix, idxB_bs, hgk, hw', kk, kko, N0, hrl]) | (simp (disch := (first | omega | (simp only [AL, List.length_map]; omega))) only [AR, AL, ifT, ifF, take_all, List.length_cons, List.length_nil, Int.reduceToNat, Int.reducePow, Nat.reducePow, k0, k5, k6, bs_size, mk_bs, bs_extract, vo_ix, idxB_bs, hgk, hw', kk, kko, N0, hrl]) | (refine wk_intro (by kernel_rfl) ?_) | (refine wq_no (by kernel_rfl) ?_) | (refine vf_of (by first | exact hyx | exact hN) ?_))
              refine sc_goto (by exact rfl) ?_
              simp only [go_sem]
              refine ih _ ⟨?_, k, qs ++ [q], ?_, by omega, by simp; omega, f3, .inr ⟨by simp, ?_, ?_⟩⟩ ?_
              · simp only [go_sem, k0, kk, kko, hrl]
              · simp only [go_sem, k6]
              · simp only [go_sem, kk, kko, List.length_append]
                first | rfl | skip
              · simp only [go_sem, kk, kko, hap]
                first | rfl | skip
              · simp only [go_sem, k6]
                simp
                omega
          · rw [f1 hm]
            generalize (numP w).1 = m at *
            clear go fin done stop hx hv f1 f2
            repeat (first | (simp only [go_sem, k0, k5, k6, bs_size, mk_bs, bs_extract, vo_ix, idxB_bs, hgk, hw']) | (simp (disch := (first | omega | (simp only [AL, List.length_map]; omega))) only [AR, AL, ifT, ifF, take_all, List.length_cons, List.length_nil, Int.reduceToNat, Int.reducePow, Nat.reducePow, k0, k5, k6, bs_size, mk_bs, bs_extract, vo_ix, idxB_bs, hgk, hw']) | (refine wk_intro (by kernel_rfl) ?_) | (refine wq_no (by kernel_rfl) ?_) | (refine vf_of (by first | exact hyx | exact hN) ?_))
            first | exact ⟨rfl, rfl⟩ | rfl | skip
        | false =>
          have hy5 := hy4 hgapk
          have hngk : ngB P[k] = true := by unfold ngB; rw [hgapk]; rfl
          have h2 : (P.drop j).dropWhile ngB = (P.drop (k + 1)).dropWhile ngB := by
            rw [hdw, List.drop_eq_getElem_cons hkl, List.dropWhile_cons, hngk]
            rfl
          have h3 : (P.drop j).takeWhile ngB = (P.drop j).take (k + 1 - j) ++ (P.drop (k + 1)).takeWhile ngB := by
            rw [htw, List.drop_eq_getElem_cons hkl, List.takeWhile_cons, hngk, show k + 1 - j = (k - j) + 1 by omega, List.take_add_one, List.getElem?_drop, show j + (k - j) = k by omega, hgk]
            simp
          clear go fin done stop hx hy3 hy4
          generalize P[k] = b at *
          repeat (first | (simp only [go_sem, k0, k4, k5, k6, bs_size, mk_bs, vo_ix, idxB_bs, hgk, kg, ko]) | (simp (disch := (first | omega | (simp only [AL, List.length_map]; omega))) only [AR, AL, ifT, ifF, take_all, List.length_cons, List.length_nil, Int.reduceToNat, Int.reducePow, Nat.reducePow, k0, k4, k5, k6, bs_size, mk_bs, vo_ix, idxB_bs, hgk, kg, ko]) | (refine wk_intro (by kernel_rfl) ?_) | (refine wq_no (by kernel_rfl) ?_) | (refine vf_of (by first | exact hyx) ?_))
          exact ⟨⟨k + 1, rfl, by omega, by omega, h3, h2⟩, by omega⟩
end Go.Proofs.YticocojomlfhgaaGreatDoor
namespace Go.Proofs.YticocojomlfhgaaGreatDoor
open Go.Ev
theorem x_cmp (a b : List UInt8) : Go.Ev.Fn CX 98 [.str (bs a), .str (bs b)] (.int .i64 (Lib.compareBytes a b)) := by
  refine ⟨1, List.replicate 2 none, ?_⟩
  have h4 : CX.X 98 ([SV.str (bs a), .str (bs b)].map Arg.sv) = some (.sv (.int .i64 (Lib.compareBytes a b)), List.replicate 2 none) := by
    show xCmp [.sv (.str (bs a)), .sv (.str (bs b))] = _
    unfold xCmp
    simp only [bs_toList]
  unfold callN
  rw [stq_sv, h4]
theorem str_Compare (a b : List UInt8) : Go.Ev.Fn CX 47 [.str (bs a), .str (bs b)] (.int .i64 (Lib.compareBytes a b)) := by
  have h0 := x_cmp a b
  have h1 : Go.Ev.Fn CX 68 [.str (bs a), .str (bs b)] (.int .i64 (Lib.compareBytes a b)) := by
    refine Go.Ev.Fn.intro (fn := Tryz.f68) (body := (Tryz.f68).body.get!) (by kernel_rfl) (by kernel_rfl) (by kernel_rfl) (fun _ => rfl) (Nat.le_of_ble_eq_true (by kernel_rfl)) ?_; unfold Tryz.f68; simp only [Option.get!_some]
    simp only [go_sem]
    refine vf_of (h0) ?_; simp only [go_sem]
  refine Go.Ev.Fn.intro (fn := Tryz.f47) (body := (Tryz.f47).body.get!) (by kernel_rfl) (by kernel_rfl) (by kernel_rfl) (fun _ => rfl) (Nat.le_of_ble_eq_true (by kernel_rfl)) ?_; unfold Tryz.f47; simp only [Option.get!_some]
  simp only [go_sem]
  refine vf_of (h1) ?_; simp only [go_sem]
theorem sess_by (a b : List UInt8) (n : Nat) (rs : List SV) : Go.Ev.Fn CX 46 [.agg [.str (bs a), .sl n rs], .str (bs b)] (.int .i64 (Lib.compareBytes a b)) := by
  have h0 := str_Compare a b
  refine Go.Ev.Fn.intro (fn := Tryz.f46) (body := (Tryz.f46).body.get!) (by kernel_rfl) (by kernel_rfl) (by kernel_rfl) (fun _ => rfl) (Nat.le_of_ble_eq_true (by kernel_rfl)) ?_; unfold Tryz.f46; simp only [Option.get!_some]
  simp only [go_sem]
  refine vf_of (h0) ?_; simp only [go_sem]
def letB : List UInt8 := [97, 98, 99, 100, 101, 102, 103, 104, 105, 106, 107, 108, 109, 110, 111, 112, 113, 114, 115, 116, 117, 118, 119, 120, 121, 122]
def sgnB : List UInt8 := letB ++ [48, 49, 50, 51, 52, 53, 54, 55, 56, 57]
def nameP (l : List UInt8) : Bool := match l with
  | [] => false
  | b :: r => decide (r.length < 12) && (decide (0 ≤ Lib.indexByte letB b) && (Lib.trimS (b :: r) sgnB).isEmpty)
theorem isEmpty_beq (l : List UInt8) : (l == []) = l.isEmpty := by cases l <;> rfl
theorem sess_Name (l : List UInt8) (hl : l.length ≤ 1048576) : Go.Ev.Fn CX 23 [.str (bs l)] (.bool (nameP l)) := by
  cases l with
  | nil =>
    have h0 : (([] : List UInt8) == []) = true := rfl
    refine Go.Ev.Fn.intro (fn := Tryz.f23) (body := (Tryz.f23).body.get!) (by kernel_rfl) (by kernel_rfl) (by kernel_rfl) (fun _ => rfl) (Nat.le_of_ble_eq_true (by kernel_rfl)) ?_; unfold Tryz.f23; simp only [Option.get!_some]
    repeat (first | (simp only [go_sem, mk_bs, bs_eq, h0, Bool.not_true]) | (simp (disch := (first | omega | (simp only [AL, List.length_map]; omega))) only [AR, AL, ifT, ifF, take_all, List.length_cons, List.length_nil, Int.reduceToNat, Int.reducePow, Nat.reducePow, mk_bs, bs_eq, h0, Bool.not_true]) | (refine wk_intro (by kernel_rfl) ?_) | (refine wq_no (by kernel_rfl) ?_))
    rfl
  | cons b r =>
    have hi := str_IndexByte letB b
    have ht := x_trim (b :: r) sgnB (by omega) (by decide) (by decide)
    have hn : ((b :: r) == ([] : List UInt8)) = false := rfl
    have hx : (b :: r)[0]? = some b := rfl
    have hsz : (b :: r).length = r.length + 1 := rfl
    have hnp : nameP (b :: r) = (decide (r.length < 12) && (decide (0 ≤ Lib.indexByte letB b) && (Lib.trimS (b :: r) sgnB).isEmpty)) := rfl
    rw [hnp]
    generalize (b :: r) = l at *
    generalize hT : Lib.trimS l sgnB = T at *
    generalize hI : Lib.indexByte letB b = z at *
    rw [show letB = [97, 98, 99, 100, 101, 102, 103, 104, 105, 106, 107, 108, 109, 110, 111, 112, 113, 114, 115, 116, 117, 118, 119, 120, 121, 122] from rfl] at hi
    rw [show sgnB = [97, 98, 99, 100, 101, 102, 103, 104, 105, 106, 107, 108, 109, 110, 111, 112, 113, 114, 115, 116, 117, 118, 119, 120, 121, 122, 48, 49, 50, 51, 52, 53, 54, 55, 56, 57] from rfl] at ht
    clear hT hI
    by_cases h1 : r.length < 12
    · have d1 := decide_eq_true h1
      by_cases h2 : 0 ≤ z
      · have d2 := decide_eq_true h2
        refine Go.Ev.Fn.intro (fn := Tryz.f23) (body := (Tryz.f23).body.get!) (by kernel_rfl) (by kernel_rfl) (by kernel_rfl) (fun _ => rfl) (Nat.le_of_ble_eq_true (by kernel_rfl)) ?_; unfold Tryz.f23; simp only [Option.get!_some]
        repeat (first | (simp only [go_sem, mk_bs, bs_eq, bs_size, hn, hsz, hx, vo_ix, idxB_bs, Bool.not_false, d1, d2, ge_iff_le, isEmpty_beq, Option.map_some]) | (simp (disch := (first | omega | (simp only [AL, List.length_map]; omega))) only [AR, AL, ifT, ifF, take_all, List.length_cons, List.length_nil, Int.reduceToNat, Int.reducePow, Nat.reducePow, mk_bs, bs_eq, bs_size, hn, hsz, hx, vo_ix, idxB_bs, Bool.not_false, d1, d2, ge_iff_le, isEmpty_beq, Option.map_some]) | (refine wk_intro (by kernel_rfl) ?_) | (refine wq_no (by kernel_rfl) ?_) | (refine vf_of (by first | exact hi | exact ht) ?_))
      · have d2 := decide_eq_false h2
        refine Go.Ev.Fn.intro (fn := Tryz.f23) (body := (Tryz.f23).body.get!) (by kernel_rfl) (by kernel_rfl) (by kernel_rfl) (fun _ => rfl) (Nat.le_of_ble_eq_true (by kernel_rfl)) ?_; unfold Tryz.f23; simp only [Option.get!_some]
        repeat (first | (simp only [go_sem, mk_bs, bs_eq, bs_size, hn, hsz, hx, vo_ix, idxB_bs, Bool.not_false, d1, d2, ge_iff_le, isEmpty_beq, Option.map_some]) | (simp (disch := (first | omega | (simp only [AL, List.length_map]; omega))) only [AR, AL, ifT, ifF, take_all, List.length_cons, List.length_nil, Int.reduceToNat, Int.reducePow, Nat.reducePow, mk_bs, bs_eq, bs_size, hn, hsz, hx, vo_ix, idxB_bs, Bool.not_false, d1, d2, ge_iff_le, isEmpty_beq, Option.map_some]) | (refine wk_intro (by kernel_rfl) ?_) | (refine wq_no (by kernel_rfl) ?_) | (refine vf_of (by first | exact hi) ?_))
        rw [Bool.false_and]
    · refine Go.Ev.Fn.intro (fn := Tryz.f23) (body := (Tryz.f23).body.get!) (by kernel_rfl) (by kernel_rfl) (by kernel_rfl) (fun _ => rfl) (Nat.le_of_ble_eq_true (by kernel_rfl)) ?_; unfold Tryz.f23; simp only [Option.get!_some]
      repeat (first | (simp only [go_sem, mk_bs, bs_eq, bs_size, hn, hsz, Bool.not_false]) | (simp (disch := (first | omega | (simp only [AL, List.length_map]; omega))) only [AR, AL, ifT, ifF, take_all, List.length_cons, List.length_nil, Int.reduceToNat, Int.reducePow, Nat.reducePow, mk_bs, bs_eq, bs_size, hn, hsz, Bool.not_false]) | (refine wk_intro (by kernel_rfl) ?_) | (refine wq_no (by kernel_rfl) ?_))
      simp [h1]
theorem rvs_snocA {l : List Rat} {i : Nat} (h : i < l.length) : rvsC (l.take i) ++ rvC (l.getD i 0) = rvsC (l.take (i + 1)) := by rw [take_snoc l h, rvsC_snoc]
theorem sess_copied {cs : List SV} {l : List Rat} {L : Nat} (h : RowC cs l L) (hL : 1 ≤ L) (hL2 : L ≤ 10000) (hl : l.length ≤ 100000) : Go.Ev.Fn CX 33 [.sl l.length cs] (.sl l.length (rvsC l)) := by
  have hlen := row_len h
  refine Go.Ev.Fn.intro (fn := Tryz.f33) (body := (Tryz.f33).body.get!) (by kernel_rfl) (by kernel_rfl) (by kernel_rfl) (fun _ => rfl) (Nat.le_of_ble_eq_true (by kernel_rfl)) ?_; unfold Tryz.f33; simp only [Option.get!_some]
  repeat (first | (simp only [go_sem]) | (simp (disch := (first | omega | (simp only [AL, List.length_map]; omega))) only [AR, AL, ifT, ifF, take_all, List.length_cons, List.length_nil, Int.reduceToNat, Int.reducePow, Nat.reducePow]) | (refine wk_intro (by kernel_rfl) ?_) | (refine wq_no (by kernel_rfl) ?_))
  refine vp_loop_inv (fun s => s.tmp 6 = .sv (.sl l.length cs) ∧ s.tmp 7 = .sv (.int .i64 (l.length : Int)) ∧ ∃ i : Nat, s.tmp 8 = .sv (.int .i64 (i : Int)) ∧ i ≤ l.length ∧
      ((i = 0 ∧ s.tmp 3 = .nil ∧ s.gen 16 = 0) ∨ (0 < i ∧ s.tmp 3 = .ref 16 0 3 0 i ∧ s.obj 16 0 = some (rvsC (l.take i)))))
    (fun s => match s.tmp 8 with | .sv (.int _ i) => l.length - i.toNat | _ => 0) ⟨rfl, rfl, 0, rfl, by omega, .inl ⟨rfl, rfl, rfl⟩⟩ ?_
  rintro s2 ⟨i6, i7, i, i8, hi, hcase⟩
  by_cases hend : i = l.length
  · subst hend
    rw [List.take_length] at hcase
    rcases hcase with ⟨h0, i3, _⟩ | ⟨h0, i3, iO⟩
    · have : l = [] := List.eq_nil_of_length_eq_zero h0
      subst this
      repeat (first | (simp only [go_sem, i6, i7, i8, i3]) | (simp (disch := (first | omega | (simp only [AL, List.length_map]; omega))) only [AR, AL, ifT, ifF, take_all, List.length_cons, List.length_nil, Int.reduceToNat, Int.reducePow, Nat.reducePow, i6, i7, i8, i3]) | (refine wk_intro (by kernel_rfl) ?_) | (refine wq_no (by kernel_rfl) ?_))
      first | rfl | skip
    · have hrl := rvsC_len l
      repeat (first | (simp only [go_sem, i6, i7, i8, i3, iO]) | (simp (disch := (first | omega | (simp only [AL, List.length_map]; omega))) only [AR, AL, ifT, ifF, take_all, List.length_cons, List.length_nil, Int.reduceToNat, Int.reducePow, Nat.reducePow, i6, i7, i8, i3, iO]) | (refine wk_intro (by kernel_rfl) ?_) | (refine wq_no (by kernel_rfl) ?_))
      refine ro_ref (cs := rvsC l) (by decide) ?_ ?_
      · simp only [go_sem, i3, iO]
      · rw [List.drop_zero, List.take_of_length_le (by omega)]
  · obtain ⟨s, n, d, rest, hat, hA⟩ := row_at (i := i) h (by omega)
    have a := rat_Norm hA (by omega)
    have hsn := rvs_snocA (l := l) (i := i) (by omega)
    have hrl := rvsC_len (l.take i)
    rw [List.length_take, Nat.min_eq_left (by omega)] at hrl
    clear h hA
    rcases hcase with ⟨h00, i3, ig⟩ | ⟨h00, i3, iO⟩
    · subst h00
      rw [List.take_zero, rvsC_nil, List.nil_append] at hsn
      rw [Nat.zero_mul, List.drop_zero] at hat
      subst hat
      repeat (first | (simp only [go_sem, i6, i7, i3, i8, ig, N0, rvC]) | (simp (disch := (first | omega | (simp only [AL, List.length_map]; omega))) only [AR, AL, ifT, ifF, take_all, List.length_cons, List.length_nil, Int.reduceToNat, Int.reducePow, Nat.reducePow, i6, i7, i3, i8, ig, N0, rvC]) | (refine wk_intro (by kernel_rfl) ?_) | (refine wq_no (by kernel_rfl) ?_) | (refine vf_of (by first | exact a) ?_))
      exact ⟨⟨1, rfl, by omega, .inr ⟨by omega, rfl, by first | (rw [← hsn]; rfl) | rw [← hsn]⟩⟩, by omega⟩
    · unfold rvC at hsn
      repeat (first | (simp only [go_sem, i6, i7, i3, i8, iO, hat, hlen, N0, hsn, hrl, rvC]) | (simp (disch := (first | omega | (simp only [AL, List.length_map]; omega))) only [AR, AL, ifT, ifF, take_all, List.length_cons, List.length_nil, Int.reduceToNat, Int.reducePow, Nat.reducePow, i6, i7, i3, i8, iO, hat, hlen, N0, hsn, hrl, rvC]) | (refine wk_intro (by kernel_rfl) ?_) | (refine wq_no (by kernel_rfl) ?_) | (refine vf_of (by first | exact a) ?_))
      exact ⟨⟨i + 1, rfl, by omega, .inr ⟨by omega, rfl, by first | (rw [← hsn]; rfl) | rw [← hsn]⟩⟩, by omega⟩
theorem sess_New : FnH CX 10 [] [.nil, .sv (.int .i64 6)] := ⟨20, [], by kernel_rfl⟩
end Go.Proofs.YticocojomlfhgaaGreatDoor
namespace Go.Proofs.YticocojomlfhgaaGreatDoor
open Go.Ev
abbrev Ent := List UInt8 × Nat × List SV
def entC (es : List Ent) : List SV := es.flatMap fun e => [.str (bs e.1), .sl e.2.1 e.2.2]
theorem entC_cons (e : Ent) (es : List Ent) : entC (e :: es) = .str (bs e.1) :: .sl e.2.1 e.2.2 :: entC es := by unfold entC; simp
theorem entC_len : ∀ es : List Ent, (entC es).length = es.length * 2
  | [] => rfl
  | e :: es => by rw [entC_cons, List.length_cons, List.length_cons, entC_len es, List.length_cons]; omega
theorem entC_one : ∀ es : List Ent, oneAll (entC es) = true
  | [] => rfl
  | e :: es => by
    have := entC_one es
    unfold oneAll at this ⊢
    rw [entC_cons, List.all_cons, List.all_cons, this]
    rfl
theorem entC_app (a b : List Ent) : entC (a ++ b) = entC a ++ entC b := by unfold entC; simp
theorem ent_at : ∀ {es : List Ent} {k : Nat}, k < es.length → ∃ rest, (entC es).drop (k * 2) = .str (bs (es.getD k default).1) :: .sl (es.getD k default).2.1 (es.getD k default).2.2 :: rest
  | e :: es, 0, _ => ⟨entC es, by rw [Nat.zero_mul, List.drop_zero, entC_cons]; rfl⟩
  | e :: es, k + 1, h => by
    obtain ⟨rest, hr⟩ := ent_at (es := es) (k := k) (by simpa using h)
    refine ⟨rest, ?_⟩
    rw [entC_cons, show (k + 1) * 2 = k * 2 + 2 by omega, List.drop_succ_cons, List.drop_succ_cons, hr]
    rfl
def cmpAt (es : List Ent) (k : Nat) (t : List UInt8) : Int := Lib.compareBytes (es.getD k default).1 t
structure PosAt (es : List Ent) (t : List UInt8) (p : Nat) : Prop where
  le : p ≤ es.length
  lo : ∀ k, k < p → cmpAt es k t < 0
  hi : ∀ k, p ≤ k → k < es.length → ¬ cmpAt es k t < 0
def isAt (es : List Ent) (t : List UInt8) (p : Nat) : Bool := decide (p < es.length) && (cmpAt es p t == 0)
theorem exp_search {s : St} {cs : List SV} {n : Nat} {x y : SV} : expOf s [.impref cs 2 0 n, .sv x, .sv y] = [s.obj 1000000 0, none, none] := rfl
theorem sess_search {es : List Ent} {t : List UInt8} {p : Nat} (hp : PosAt es t p) (hl : es.length ≤ 100000) :
    FnI CX 45 [.impref (entC es) 2 0 es.length, .sv (.str (bs t)), .sv (.fn 46 [])] (.tup [.int .i64 p, .bool (isAt es t p)]) [some (entC es), none, none] := by
  have key : ∃ r exps, (r = .tup [.int .i64 p, .bool (isAt es t p)] ∧ exps = [some (entC es), none, none]) ∧ FnI CX 45 [.impref (entC es) 2 0 es.length, .sv (.str (bs t)), .sv (.fn 46 [])] r exps := by
    refine FnI_of (fn := Tryz.f45) (body := (Tryz.f45).body.get!) (by kernel_rfl) (by kernel_rfl) (by kernel_rfl) (fun _ => rfl) (Nat.le_of_ble_eq_true (by kernel_rfl)) ?_
    unfold Tryz.f45
    simp only [Option.get!_some, exp_search]
    repeat (first | (simp only [go_sem, N0]) | (simp (disch := (first | omega | (simp only [AL, List.length_map]; omega))) only [AR, AL, ifT, ifF, take_all, List.length_cons, List.length_nil, Int.reduceToNat, Int.reducePow, Nat.reducePow, N0]) | (refine wk_intro (by kernel_rfl) ?_) | (refine wq_no (by kernel_rfl) ?_))
    refine vp_loop_inv (fun s => s.tmp 0 = .ref 1000000 0 2 0 es.length ∧ s.tmp 1 = .sv (.str (bs t)) ∧ s.tmp 2 = .sv (.fn 46 []) ∧ s.obj 1000000 0 = some (entC es) ∧ s.tmp 8 = .sv (.int .i64 (es.length : Int)) ∧
        ∃ i j : Nat, s.tmp 9 = .sv (.int .i64 (i : Int)) ∧ s.tmp 10 = .sv (.int .i64 (j : Int)) ∧ i ≤ p ∧ p ≤ j ∧ j ≤ es.length)
      (fun s => match s.tmp 9, s.tmp 10 with | .sv (.int _ i), .sv (.int _ j) => j.toNat - i.toNat | _, _ => 0) ⟨rfl, rfl, rfl, rfl, rfl, 0, es.length, rfl, rfl, by omega, hp.le, by omega⟩ ?_
    rintro s ⟨i0, i1, i2, iO, i8, i, j, i9, i10, hi, hj, hjl⟩
    by_cases hend : i = j
    · have : i = p := by omega
      subst this
      subst hend
      by_cases hlt : i < es.length
      · obtain ⟨rest, hat⟩ := ent_at hlt
        have c := sess_by (es.getD i default).1 t (es.getD i default).2.1 (es.getD i default).2.2
        have hfi : isAt es t i = (Lib.compareBytes (es.getD i default).1 t == 0) := by unfold isAt cmpAt; rw [decide_eq_true hlt, Bool.true_and]
        rw [hfi]
        generalize Lib.compareBytes (es.getD i default).1 t = z at *
        repeat (first | (simp only [go_sem, i0, i1, i2, iO, i8, i9, i10, hat]) | (simp (disch := (first | omega | (simp only [AL, List.length_map]; omega))) only [AR, AL, ifT, ifF, take_all, List.length_cons, List.length_nil, Int.reduceToNat, Int.reducePow, Nat.reducePow, i0, i1, i2, iO, i8, i9, i10, hat]) | (refine wk_intro (by kernel_rfl) ?_) | (refine wq_no (by kernel_rfl) ?_))
        refine vf_of (c) ?_; repeat (first | (simp only [go_sem, i0, i1, i2, iO, i8, i9, i10, hat]) | (simp (disch := (first | omega | (simp only [AL, List.length_map]; omega))) only [AR, AL, ifT, ifF, take_all, List.length_cons, List.length_nil, Int.reduceToNat, Int.reducePow, Nat.reducePow, i0, i1, i2, iO, i8, i9, i10, hat]) | (refine wk_intro (by kernel_rfl) ?_) | (refine wq_no (by kernel_rfl) ?_))
        refine ⟨_, _, ⟨rfl, rfl⟩, ?_, rfl⟩
        simp only [go_sem]
      · have hfi : isAt es t i = false := by unfold isAt; rw [decide_eq_false hlt, Bool.false_and]
        rw [hfi]
        repeat (first | (simp only [go_sem, i0, i1, i2, iO, i8, i9, i10]) | (simp (disch := (first | omega | (simp only [AL, List.length_map]; omega))) only [AR, AL, ifT, ifF, take_all, List.length_cons, List.length_nil, Int.reduceToNat, Int.reducePow, Nat.reducePow, i0, i1, i2, iO, i8, i9, i10]) | (refine wk_intro (by kernel_rfl) ?_) | (refine wq_no (by kernel_rfl) ?_))
        refine ⟨_, _, ⟨rfl, rfl⟩, ?_, rfl⟩
        simp only [go_sem]
    · have hh : ∃ h, (i + j) / 2 = h := ⟨_, rfl⟩
      obtain ⟨h, hh⟩ := hh
      have hhj : h < j := by omega
      have hih : i ≤ h := by omega
      obtain ⟨rest, hat⟩ := ent_at (es := es) (k := h) (by omega)
      have c := sess_by (es.getD h default).1 t (es.getD h default).2.1 (es.getD h default).2.2
      have hlo := hp.lo h
      have hhi := hp.hi h
      unfold cmpAt at hlo hhi
      generalize Lib.compareBytes (es.getD h default).1 t = z at *
      have hlen := entC_len es
      by_cases hz : z < 0
      · have dz := decide_eq_true hz
        repeat (first | (simp only [go_sem, i0, i1, i2, iO, i8, i9, i10, hh, hlen, hat]) | (simp (disch := (first | omega | (simp only [AL, List.length_map]; omega))) only [AR, AL, ifT, ifF, take_all, List.length_cons, List.length_nil, Int.reduceToNat, Int.reducePow, Nat.reducePow, i0, i1, i2, iO, i8, i9, i10, hh, hlen, hat]) | (refine wk_intro (by kernel_rfl) ?_) | (refine wq_no (by kernel_rfl) ?_))
        refine vf_of (c) ?_; repeat (first | (simp only [go_sem, i0, i1, i2, iO, i8, i9, i10, hh, hlen, hat, dz]) | (simp (disch := (first | omega | (simp only [AL, List.length_map]; omega))) only [AR, AL, ifT, ifF, take_all, List.length_cons, List.length_nil, Int.reduceToNat, Int.reducePow, Nat.reducePow, i0, i1, i2, iO, i8, i9, i10, hh, hlen, hat, dz]) | (refine wk_intro (by kernel_rfl) ?_) | (refine wq_no (by kernel_rfl) ?_))
        exact ⟨⟨h + 1, j, rfl, rfl, by omega, hj, hjl⟩, by omega⟩
      · have dz := decide_eq_false hz
        repeat (first | (simp only [go_sem, i0, i1, i2, iO, i8, i9, i10, hh, hlen, hat]) | (simp (disch := (first | omega | (simp only [AL, List.length_map]; omega))) only [AR, AL, ifT, ifF, take_all, List.length_cons, List.length_nil, Int.reduceToNat, Int.reducePow, Nat.reducePow, i0, i1, i2, iO, i8, i9, i10, hh, hlen, hat]) | (refine wk_intro (by kernel_rfl) ?_) | (refine wq_no (by kernel_rfl) ?_))
        refine vf_of (c) ?_; repeat (first | (simp only [go_sem, i0, i1, i2, iO, i8, i9, i10, hh, hlen, hat, dz]) | (simp (disch := (first | omega | (simp only [AL, List.length_map]; omega))) only [AR, AL, ifT, ifF, take_all, List.length_cons, List.length_nil, Int.reduceToNat, Int.reducePow, Nat.reducePow, i0, i1, i2, iO, i8, i9, i10, hh, hlen, hat, dz]) | (refine wk_intro (by kernel_rfl) ?_) | (refine wq_no (by kernel_rfl) ?_))
        exact ⟨⟨i, h, rfl, rfl, hi, by omega, by omega⟩, by omega⟩
  obtain ⟨r, exps, ⟨rfl, rfl⟩, h⟩ := key
  exact h
end Go.Proofs.YticocojomlfhgaaGreatDoor
namespace Go.Proofs.YticocojomlfhgaaGreatDoor
open Go.Ev
def plV : TV → Bool
  | .sv _ => true
  | .nil => true
  | .undef => true
  | .ptr d _ _ => decide (H0 ≤ d)
  | _ => false
theorem kill_pl {v : TV} {d g : Nat} (h : plV v = true) (hd : d < H0) : v.kill d g = v := by
  cases v with
  | ptr d' g' off =>
    have := of_decide_eq_true h
    show (if d' = d ∧ g' = g then _ else _) = _
    rw [if_neg (by omega)]
  | ref => cases h
  | rfc => cases h
  | _ => rfl
theorem up_even {st : St} {vs : List TV} {t : Nat} : (st.enter vs).up (2 * t) = st.tmp t := by
  rw [up_enter, if_pos (by omega), show 2 * t / 2 = t by omega]
theorem up_odd {st : St} {vs : List TV} {t : Nat} : (st.enter vs).up (2 * t + 1) = st.up t := by
  rw [up_enter, if_neg (by omega), show (2 * t + 1) / 2 = t by omega]
structure Keep (st st' : St) : Prop where
  tmp : ∀ t, plV (st.tmp t) = true → st'.tmp t = st.tmp t
  up : ∀ t, plV (st.up t) = true → st'.up t = st.up t
structure SessR (st : St) (d g : Nat) (es : List Ent) (D : Int) : Prop where
  ob : H0 ≤ d
  row : (es = [] ∧ st.hob d g = some [.nil, .sv (.int .i64 D)]) ∨ ∃ g1, g1 < st.gen 25 ∧ st.hob d g = some [.ref 25 g1 2 0 es.length, .sv (.int .i64 D)] ∧ st.obj 25 g1 = some (entC es)
theorem SessR.of {st s : St} {d g : Nat} {es : List Ent} {D : Int} (h : SessR st d g es D) (h1 : s.hob d g = st.hob d g) (h2 : ∀ g1, s.obj 25 g1 = st.obj 25 g1) (h3 : st.gen 25 ≤ s.gen 25) : SessR s d g es D := by
  obtain ⟨hd, hrow⟩ := h
  refine ⟨hd, ?_⟩
  rcases hrow with ⟨e, ho⟩ | ⟨g1, hg1, ho, hobj⟩
  · exact .inl ⟨e, h1.trans ho⟩
  · exact .inr ⟨g1, Nat.lt_of_lt_of_le hg1 h3, h1.trans ho, (h2 g1).trans hobj⟩
theorem keep_of {st s : St} {vs : List TV} (h : ∀ u, plV ((st.enter vs).up u) = true → s.up u = (st.enter vs).up u) : Keep st s.leave :=
  ⟨fun t ht => by rw [tmp_leave, h (2 * t) (by rw [up_even]; exact ht), up_even], fun t ht => by rw [up_leave, h (2 * t + 1) (by rw [up_odd]; exact ht), up_odd]⟩
theorem Keep.trans {a b c : St} (h : Keep a b) (k : Keep b c) : Keep a c :=
  ⟨fun t ht => by rw [k.tmp t (by rw [h.tmp t ht]; exact ht), h.tmp t ht], fun t ht => by rw [k.up t (by rw [h.up t ht]; exact ht), h.up t ht]⟩
theorem search_nil (t : List UInt8) : Go.Ev.Fn CX 45 [.sl 0 [], .str (bs t), .fn 46 []] (.tup [.int .i64 0, .bool false]) := by
  refine Go.Ev.Fn.intro (fn := Tryz.f45) (body := (Tryz.f45).body.get!) (by kernel_rfl) (by kernel_rfl) (by kernel_rfl) (fun _ => rfl) (Nat.le_of_ble_eq_true (by kernel_rfl)) ?_; unfold Tryz.f45; simp only [Option.get!_some]
  repeat (first | (simp only [go_sem]) | (simp (disch := (first | omega | (simp only [AL, List.length_map]; omega))) only [AR, AL, ifT, ifF, take_all, List.length_cons, List.length_nil, Int.reduceToNat, Int.reducePow, Nat.reducePow]) | (refine wk_intro (by kernel_rfl) ?_) | (refine wq_no (by kernel_rfl) ?_))
  refine vp_loop_inv (fun s => s.tmp 8 = .sv (.int .i64 0) ∧ s.tmp 9 = .sv (.int .i64 0) ∧ s.tmp 10 = .sv (.int .i64 0)) (fun _ => 0) ⟨rfl, rfl, rfl⟩ ?_
  rintro s ⟨i8, i9, i10⟩
  repeat (first | (simp only [go_sem, i8, i9, i10]) | (simp (disch := (first | omega | (simp only [AL, List.length_map]; omega))) only [AR, AL, ifT, ifF, take_all, List.length_cons, List.length_nil, Int.reduceToNat, Int.reducePow, Nat.reducePow, i8, i9, i10]) | (refine wk_intro (by kernel_rfl) ?_) | (refine wq_no (by kernel_rfl) ?_))
section
variable {ops : Array Oper} {l : List Oper} {dst : Option Nat} {st : St} {Q : St → Prop} {d g p : Nat} {es : List Ent} {t : List UInt8} {D : Int}
structure Same (st st' : St) : Prop where
  tmp : ∀ t, st'.tmp t = st.tmp t
  up : ∀ t, st'.up t = st.up t
  obj : ∀ d g, st'.obj d g = st.obj d g
  gen : st'.gen = st.gen
  hob : st'.hob = st.hob
theorem Same.keep {st st' : St} (h : Same st st') : Keep st st' := ⟨fun t _ => h.tmp t, fun t _ => h.up t⟩
theorem sess_atS (hp : PosAt es t p) (hl : es.length ≤ 100000) (h : SessR st d g es D)
    (k : ∀ st', Same st st' → WO CX false ops l (st'.putO dst (.sv (.tup [.int .i64 p, .bool (isAt es t p)]))) Q) :
    WN CX ops l dst st Q 31 [.ptr d g 0, .sv (.str (bs t))] := by
  obtain ⟨hd, hrow⟩ := h
  have hd' : 2000000 ≤ d := hd
  rcases hrow with ⟨rfl, ho⟩ | ⟨g1, hg1, ho, hobj⟩
  · have : p = 0 := by have := hp.le; simpa using this
    subst this
    have c := search_nil t
    refine wn_of (fn := Tryz.f31) (body := (Tryz.f31).body.get!) (by kernel_rfl) (by kernel_rfl) (by kernel_rfl) (Nat.le_of_ble_eq_true (by kernel_rfl)) ?_; unfold Tryz.f31; simp only [Option.get!_some]
    repeat (first | (simp only [go_sem, hd', ho]) | (simp (disch := (first | omega | (simp only [AL, List.length_map]; omega))) only [AR, AL, ifT, ifF, take_all, List.length_cons, List.length_nil, Int.reduceToNat, Int.reducePow, Nat.reducePow, hd', ho]) | (refine wk_intro (by kernel_rfl) ?_) | (refine wq_no (by kernel_rfl) ?_) | (refine vf_of (by first | exact c) ?_))
    exact k _ ⟨fun u => by simp only [tmp_leave, up_put, up_even], fun u => by simp only [up_leave, up_put, up_odd], fun _ _ => rfl, rfl, rfl⟩
  · have c := sess_search hp hl
    refine wn_of (fn := Tryz.f31) (body := (Tryz.f31).body.get!) (by kernel_rfl) (by kernel_rfl) (by kernel_rfl) (Nat.le_of_ble_eq_true (by kernel_rfl)) ?_; unfold Tryz.f31; simp only [Option.get!_some]
    repeat (first | (simp only [go_sem, hd', ho, hobj]) | (simp (disch := (first | omega | (simp only [AL, List.length_map]; omega))) only [AR, AL, ifT, ifF, take_all, List.length_cons, List.length_nil, Int.reduceToNat, Int.reducePow, Nat.reducePow, hd', ho, hobj]) | (refine wk_intro (by kernel_rfl) ?_) | (refine wq_no (by kernel_rfl) ?_))
    refine vi_of c rfl ?_
    repeat (first | (simp only [go_sem, hd', ho, hobj]) | (simp (disch := (first | omega | (simp only [AL, List.length_map]; omega))) only [AR, AL, ifT, ifF, take_all, List.length_cons, List.length_nil, Int.reduceToNat, Int.reducePow, Nat.reducePow, hd', ho, hobj]) | (refine wk_intro (by kernel_rfl) ?_) | (refine wq_no (by kernel_rfl) ?_))
    refine k _ ⟨fun u => by simp only [tmp_leave, up_put, up_set, up_even], fun u => by simp only [up_leave, up_put, up_set, up_odd], fun d2 g2 => ?_, rfl, rfl⟩
    simp only [obj_leave, obj_put, obj_set]
    split
    · rename_i e
      rw [e.1, e.2, ← hobj]
    · rfl
theorem sess_at (hp : PosAt es t p) (hl : es.length ≤ 100000) (h : SessR st d g es D)
    (k : ∀ st', Keep st st' → SessR st' d g es D → WO CX false ops l (st'.putO dst (.sv (.tup [.int .i64 p, .bool (isAt es t p)]))) Q) :
    WN CX ops l dst st Q 31 [.ptr d g 0, .sv (.str (bs t))] :=
  sess_atS hp hl h fun s hs => k s hs.keep (h.of (by rw [hs.hob]) (fun _ => hs.obj _ _) (by rw [hs.gen]; exact Nat.le_refl _))
theorem sess_insert_nil {g2 : Nat} (h2 : st.obj 49 g2 = some [.str (bs t), .sl 0 []])
    (k : ∀ st' g', Keep st st' → g' < st'.gen 25 → st'.obj 25 g' = some (entC [(t, 0, [])]) → st'.hob = st.hob → WO CX false ops l (st'.putO dst (.ref 25 g' 2 0 1)) Q) :
    WN CX ops l dst st Q 32 [.nil, .sv (.int .i64 0), .ref 49 g2 2 0 1] := by
  refine wn_of (fn := Tryz.f32) (body := (Tryz.f32).body.get!) (by kernel_rfl) (by kernel_rfl) (by kernel_rfl) (Nat.le_of_ble_eq_true (by kernel_rfl)) ?_; unfold Tryz.f32; simp only [Option.get!_some]
  repeat (first | (simp only [go_sem, h2]) | (simp (disch := (first | omega | (simp only [AL, List.length_map]; omega))) only [AR, AL, ifT, ifF, take_all, List.length_cons, List.length_nil, Int.reduceToNat, Int.reducePow, Nat.reducePow, h2]) | (refine wk_intro (by kernel_rfl) ?_) | (refine wq_no (by kernel_rfl) ?_) | (refine vp_draw (id := 11) (l := []) (by kernel_rfl) ?_) | (refine vp_draw (id := 15) (l := []) (by kernel_rfl) ?_))
  refine k _ (st.gen 25) ⟨fun u _ => by simp only [tmp_leave, up_put, up_new, up_even], fun u _ => by simp only [up_leave, up_put, up_new, up_odd]⟩ ?_ ?_ ?_
  · simp only [gen_leave, gen_put, gen_new, gen_enter, if_true]
    omega
  · simp only [obj_leave, obj_put, obj_new, gen_put, gen_enter, and_self, if_true]
    rfl
  · simp only [hob_leave, hob_put, hob_new, hob_enter]
def insE (es : List Ent) (p : Nat) (e : Ent) : List Ent := es.take p ++ e :: es.drop p
theorem insE_len {es : List Ent} {p : Nat} {e : Ent} (hp : p ≤ es.length) : (insE es p e).length = es.length + 1 := by
  unfold insE
  rw [List.length_append, List.length_cons, List.length_take, List.length_drop]
  omega
theorem insE_end {es : List Ent} {e : Ent} : insE es es.length e = es ++ [e] := by
  unfold insE
  rw [List.take_length, List.drop_length]
theorem entC_take {es : List Ent} {p : Nat} (hp : p ≤ es.length) : entC (es.take p) = (entC es).take (p * 2) ∧ entC (es.drop p) = (entC es).drop (p * 2) := by
  have h := entC_app (es.take p) (es.drop p)
  rw [List.take_append_drop] at h
  have hl : (entC (es.take p)).length = p * 2 := by rw [entC_len, List.length_take]; omega
  constructor
  · rw [h, ← hl, List.take_left]
  · rw [h, ← hl, List.drop_left]
theorem entC_ins {es : List Ent} {p : Nat} (hp : p ≤ es.length) {n : List UInt8} {m : Nat} {cs : List SV} : entC (insE es p (n, m, cs)) = (entC es).take (p * 2) ++ [.str (bs n), .sl m cs] ++ (entC es).drop (p * 2) := by
  unfold insE
  rw [entC_app, entC_cons, (entC_take hp).1, (entC_take hp).2, List.append_assoc]
  rfl
theorem sess_insert {g1 g2 : Nat} (hp : p ≤ es.length) (hl : es.length ≤ 100000) (h1 : st.obj 25 g1 = some (entC es)) (h2 : st.obj 49 g2 = some [.str (bs t), .sl 0 []])
    (k : ∀ st', Keep st st' → st.gen 25 ≤ st'.gen 25 → st'.obj 25 g1 = some (entC (insE es p (t, 0, []))) → (∀ d g, st'.hob d g = (st.hob d g).map fun ts => ts.map fun t => t.kill 25 g1) → WO CX false ops l (st'.putO dst (.ref 25 g1 2 0 (es.length + 1))) Q) :
    WN CX ops l dst st Q 32 [.ref 25 g1 2 0 es.length, .sv (.int .i64 (p : Int)), .ref 49 g2 2 0 1] := by
  refine wn_by (st' := insSt st 25 g1 (entC (insE es p (t, 0, [])))) (r := .ref 25 g1 2 0 (es.length + 1)) (e := []) ?_ (k _ ⟨fun u hu => kill_pl hu (by decide), fun u hu => kill_pl hu (by decide)⟩ (Nat.le_succ _) (if_pos ⟨rfl, rfl⟩) fun _ _ => rfl)
  have e : CX.X 32 [.st false st [.ref 25 g1 2 0 es.length, .sv (.int .i64 (p : Int)), .ref 49 g2 2 0 1]] = xIns [.st false st [.ref 25 g1 2 0 es.length, .sv (.int .i64 (p : Int)), .ref 49 g2 2 0 1]] := rfl
  rw [e]
  unfold xIns
  simp only [h1, h2]
  rw [if_pos ⟨by decide, by omega, entC_len es, entC_one es, by omega, by omega, hl⟩, entC_ins hp, Int.toNat_natCast]
theorem sess_delete {g1 : Nat} (hp : p < es.length) (hl : es.length ≤ 100000) (h1 : st.obj 25 g1 = some (entC es))
    (k : ∀ st', Keep st st' → st.gen 25 ≤ st'.gen 25 → st'.obj 25 g1 = some (entC (es.take p ++ es.drop (p + 1))) → (∀ d g, st'.hob d g = (st.hob d g).map fun ts => ts.map fun t => t.kill 25 g1) → WO CX false ops l (st'.putO dst (.ref 25 g1 2 0 (es.length - 1))) Q) :
    WN CX ops l dst st Q 38 [.ref 25 g1 2 0 es.length, .sv (.int .i64 (p : Int)), .sv (.int .i64 ((p + 1 : Nat) : Int))] := by
  refine wn_by (st' := insSt st 25 g1 (entC (es.take p ++ es.drop (p + 1)))) (r := .ref 25 g1 2 0 (es.length - 1)) (e := []) ?_ (k _ ⟨fun u hu => kill_pl hu (by decide), fun u hu => kill_pl hu (by decide)⟩ (Nat.le_succ _) (if_pos ⟨rfl, rfl⟩) fun _ _ => rfl)
  have e : CX.X 38 [.st false st [.ref 25 g1 2 0 es.length, .sv (.int .i64 (p : Int)), .sv (.int .i64 ((p + 1 : Nat) : Int))]] = xDel [.st false st [.ref 25 g1 2 0 es.length, .sv (.int .i64 (p : Int)), .sv (.int .i64 ((p + 1 : Nat) : Int))]] := rfl
  rw [e]
  unfold xDel
  simp only [h1]
  rw [if_pos ⟨by decide, entC_len es, entC_one es, by omega, by omega, by omega, hl⟩, entC_app, (entC_take (by omega)).1, (entC_take (by omega)).2, Int.toNat_natCast, show (p + 1) * 2 = p * 2 + 2 by omega]
end
end Go.Proofs.YticocojomlfhgaaGreatDoor
namespace Go.Proofs.YticocojomlfhgaaGreatDoor
open Go.Ev
theorem ent_set : ∀ {es : List Ent} {k : Nat} {n : Nat} {cs : List SV}, k < es.length → splice (entC es) (k * 2 + 1) [.sl n cs] = entC (es.set k ((es.getD k default).1, n, cs))
  | e :: es, 0, n, cs, _ => by
    rw [entC_cons, List.set_cons_zero, entC_cons]
    rfl
  | e :: es, k + 1, n, cs, h => by
    have := ent_set (es := es) (k := k) (n := n) (cs := cs) (by simpa using h)
    rw [entC_cons, List.set_cons_succ, entC_cons, show (k + 1) * 2 + 1 = (k * 2 + 1) + 2 by omega]
    unfold splice at this ⊢
    rw [List.take_succ_cons, List.take_succ_cons, List.getD_cons_succ, ← this]
    simp only [List.length_cons, List.length_nil]
    rw [show k * 2 + 1 + 2 + (0 + 1) = (k * 2 + 1 + (0 + 1)) + 2 by omega, List.drop_succ_cons, List.drop_succ_cons]
    rfl
theorem cmp_zero : ∀ {a b : List UInt8}, Lib.compareBytes a b = 0 → a = b
  | [], [], _ => rfl
  | [], _ :: _, h => by simp [Lib.compareBytes] at h
  | _ :: _, [], h => by simp [Lib.compareBytes] at h
  | x :: a, y :: b, h => by
    unfold Lib.compareBytes at h
    split at h
    · cases h
    · rename_i h1
      split at h
      · cases h
      · rename_i h2
        have e : x = y := UInt8.le_antisymm (UInt8.not_lt.1 h2) (UInt8.not_lt.1 h1)
        rw [e, cmp_zero h]
theorem name_at {es : List Ent} {t : List UInt8} {p : Nat} (h : isAt es t p = true) : (es.getD p default).1 = t := by
  unfold isAt cmpAt at h
  rw [Bool.and_eq_true] at h
  exact cmp_zero (by simpa using h.2)
section
variable {ops : Array Oper} {l : List Oper} {dst : Option Nat} {st : St} {Q : St → Prop} {d g p : Nat} {es : List Ent} {t : List UInt8} {D : Int}
theorem sess_Set_at {m : Nat} {cs rs : List SV} (ht : t.length ≤ 1048576) (hn : nameP t = true) (hp : PosAt es t p) (hl : es.length ≤ 100000) (hm : m ≤ 256) (hat : isAt es t p = true)
    (hc : Go.Ev.Fn CX 33 [.sl m cs] (.sl m rs)) {tl : TV} (htl : tl = .sv (.sl m cs) ∨ (tl = .nil ∧ m = 0 ∧ cs = [])) (h : SessR st d g es D)
    (k : ∀ st', Keep st st' → SessR st' d g (es.set p (t, m, rs)) D → WO CX false ops l (st'.putO dst (.sv (.int .i64 0))) Q) :
    WN CX ops l dst st Q 11 [.ptr d g 0, .sv (.str (bs t)), tl] := by
  have nm := sess_Name t ht
  rw [hn] at nm
  have hd' : 2000000 ≤ d := h.ob
  have hpt : plV tl = true := by rcases htl with rfl | ⟨rfl, _, _⟩ <;> rfl
  refine wn_of (fn := Tryz.f11) (body := (Tryz.f11).body.get!) (by kernel_rfl) (by kernel_rfl) (by kernel_rfl) (Nat.le_of_ble_eq_true (by kernel_rfl)) ?_; unfold Tryz.f11; simp only [Option.get!_some]
  repeat (first | (simp only [go_sem, hd', Bool.not_true]) | (simp (disch := (first | omega | (simp only [AL, List.length_map]; omega))) only [AR, AL, ifT, ifF, take_all, List.length_cons, List.length_nil, Int.reduceToNat, Int.reducePow, Nat.reducePow, hd', Bool.not_true]) | (refine wk_intro (by kernel_rfl) ?_) | (refine wq_no (by kernel_rfl) ?_) | (refine vp_draw (id := 10) (l := [2]) (by kernel_rfl) ?_) | (refine vf_of (by first | exact nm) ?_))
  have hpl : plV (.ptr d g 0) = true := decide_eq_true h.ob
  refine sess_at hp hl (h.of rfl (fun _ => rfl) (Nat.le_refl _)) ?_
  intro s1 hk hs1
  have k0 : s1.tmp 0 = .ptr d g 0 := hk.tmp 0 hpl
  have k1 : s1.tmp 1 = .sv (.str (bs t)) := hk.tmp 1 rfl
  have k2 : s1.tmp 2 = tl := hk.tmp 2 hpt
  have hu := hk.up
  clear hk h
  have hpl : p < es.length := by
    unfold isAt at hat
    rw [Bool.and_eq_true] at hat
    exact of_decide_eq_true hat.1
  have hset := ent_set (n := m) (cs := rs) hpl
  have hname : (es.getD p default).1 = t := name_at hat
  rw [hname] at hset
  unfold splice at hset
  rcases htl with rfl | ⟨rfl, rfl, rfl⟩
  all_goals
    obtain ⟨_, hrow⟩ := hs1
    rcases hrow with ⟨rfl, _⟩ | ⟨g1, hg1, ho, hobj⟩
    · simp at hpl
    have hlen := entC_len es
    repeat (first | (simp only [go_sem, hd', k0, k1, k2, hat, ho, hobj, Bool.not_true, hlen]) | (simp (disch := (first | omega | (simp only [AL, List.length_map]; omega))) only [AR, AL, ifT, ifF, take_all, List.length_cons, List.length_nil, Int.reduceToNat, Int.reducePow, Nat.reducePow, hd', k0, k1, k2, hat, ho, hobj, Bool.not_true, hlen]) | (refine wk_intro (by kernel_rfl) ?_) | (refine wq_no (by kernel_rfl) ?_) | (refine vp_draw (id := 10) (l := [2]) (by kernel_rfl) ?_) | (refine vf_of (by first | exact hc) ?_))
    refine k _ (keep_of (vs := []) fun u huu => ?_) ⟨hd', .inr ⟨g1, hg1, ?_, ?_⟩⟩
    · simp only [up_put, up_set]
      exact hu u huu
    · simp only [hob_leave, hob_put, hob_set]
      rw [ho, List.length_set]
    · simp only [obj_leave, obj_put, obj_set, and_self, if_true]
      exact congrArg some hset
theorem not_at (es : List Ent) (t : List UInt8) : isAt es t es.length = false := by
  unfold isAt
  rw [decide_eq_false (Nat.lt_irrefl _), Bool.false_and]
theorem insE_set {es : List Ent} {p : Nat} (hp : p ≤ es.length) {n : List UInt8} {m : Nat} {cs : List SV} {e : Ent} (he : e.1 = n) : ((insE es p e).getD p default).1 = n ∧ (insE es p e).set p (n, m, cs) = insE es p (n, m, cs) := by
  have hl : (es.take p).length = p := by rw [List.length_take]; omega
  unfold insE
  constructor
  · rw [List.getD_eq_getElem?_getD, List.getElem?_append_right (by omega), hl, Nat.sub_self]
    exact he
  · rw [List.set_append_right _ _ (by omega), hl, Nat.sub_self]
    rfl
theorem sess_Set_new {m : Nat} {cs rs : List SV} (ht : t.length ≤ 1048576) (hn : nameP t = true) (hp : PosAt es t p) (hat : isAt es t p = false) (hl : es.length < 16) (hm : m ≤ 256)
    (hc : Go.Ev.Fn CX 33 [.sl m cs] (.sl m rs)) {tl : TV} (htl : tl = .sv (.sl m cs) ∨ (tl = .nil ∧ m = 0 ∧ cs = [])) (h : SessR st d g es D)
    (k : ∀ st', Keep st st' → SessR st' d g (insE es p (t, m, rs)) D → WO CX false ops l (st'.putO dst (.sv (.int .i64 0))) Q) :
    WN CX ops l dst st Q 11 [.ptr d g 0, .sv (.str (bs t)), tl] := by
  have nm := sess_Name t ht
  rw [hn] at nm
  have hple := hp.le
  have hd' : 2000000 ≤ d := h.ob
  have hpt : plV tl = true := by rcases htl with rfl | ⟨rfl, _, _⟩ <;> rfl
  have hpl : plV (.ptr d g 0) = true := decide_eq_true h.ob
  refine wn_of (fn := Tryz.f11) (body := (Tryz.f11).body.get!) (by kernel_rfl) (by kernel_rfl) (by kernel_rfl) (Nat.le_of_ble_eq_true (by kernel_rfl)) ?_; unfold Tryz.f11; simp only [Option.get!_some]
  repeat (first | (simp only [go_sem, hd', Bool.not_true]) | (simp (disch := (first | omega | (simp only [AL, List.length_map]; omega))) only [AR, AL, ifT, ifF, take_all, List.length_cons, List.length_nil, Int.reduceToNat, Int.reducePow, Nat.reducePow, hd', Bool.not_true]) | (refine wk_intro (by kernel_rfl) ?_) | (refine wq_no (by kernel_rfl) ?_) | (refine vp_draw (id := 10) (l := [2]) (by kernel_rfl) ?_) | (refine vf_of (by first | exact nm) ?_))
  refine sess_at hp (by omega) (h.of rfl (fun _ => rfl) (Nat.le_refl _)) ?_
  intro s1 hk hs1
  have k0 : s1.tmp 0 = .ptr d g 0 := hk.tmp 0 hpl
  have k1 : s1.tmp 1 = .sv (.str (bs t)) := hk.tmp 1 rfl
  have k2 : s1.tmp 2 = tl := hk.tmp 2 hpt
  have hu := hk.up
  clear hk h
  have hlen := entC_len (insE es p (t, 0, []))
  rw [insE_len hple] at hlen
  have hset := ent_set (es := insE es p (t, 0, [])) (k := p) (n := m) (cs := rs) (by rw [insE_len hple]; omega)
  rw [(insE_set (m := m) (cs := rs) hple rfl).1, (insE_set hple rfl).2] at hset
  unfold splice at hset
  rcases htl with rfl | ⟨rfl, rfl, rfl⟩
  all_goals
    obtain ⟨_, hrow⟩ := hs1
    rcases hrow with ⟨rfl, ho⟩ | ⟨g1, hg1, ho, hobj⟩
    · have hp0 : p = 0 := by simpa using hple
      subst hp0
      repeat (first | (simp only [go_sem, hd', k0, k1, k2, hat, ho, Bool.not_true, Bool.not_false]) | (simp (disch := (first | omega | (simp only [AL, List.length_map]; omega))) only [AR, AL, ifT, ifF, take_all, List.length_cons, List.length_nil, Int.reduceToNat, Int.reducePow, Nat.reducePow, hd', k0, k1, k2, hat, ho, Bool.not_true, Bool.not_false]) | (refine wk_intro (by kernel_rfl) ?_) | (refine wq_no (by kernel_rfl) ?_) | (refine vp_draw (id := 10) (l := [2]) (by kernel_rfl) ?_))
      refine sess_insert_nil (t := t) (g2 := s1.gen 49) ?_ ?_
      · simp only [obj_put, obj_new, gen_put, and_self, if_true]
      intro s2 g2 hk2 hg2 hobj2 hhob2
      have j0 : s2.tmp 0 = .ptr d g 0 := (hk2.tmp 0 (by simp only [tmp_put, tmp_new, k0, reduceIte, Nat.reduceEqDiff]; exact hpl)).trans (by simp only [tmp_put, tmp_new, k0, reduceIte, Nat.reduceEqDiff])
      have j41 : s2.tmp 41 = .ptr d g 0 := (hk2.tmp 41 hpl).trans rfl
      have j7 : s2.tmp 7 = .sv (.int .i64 0) := (hk2.tmp 7 rfl).trans rfl
      have j2 : s2.tmp 2 = s1.tmp 2 := (hk2.tmp 2 (by simp only [tmp_put, tmp_new, k2, reduceIte, Nat.reduceEqDiff]; rfl)).trans (by simp only [tmp_put, tmp_new, k2, reduceIte, Nat.reduceEqDiff])
      have j2 := j2.trans k2
      have hob2 : s2.hob d g = some [.nil, .sv (.int .i64 D)] := by rw [hhob2]; exact ho
      have hobj2 : s2.obj 25 g2 = some [.str (bs t), .sl 0 []] := hobj2
      have hu2 := hk2.up
      have hu3 : ∀ u, plV (s1.up u) = true → s2.up u = s1.up u := hu2
      clear hk2 hu2 hhob2 k0 k1 k2
      repeat (first | (simp only [go_sem, hd', j0, j41, j7, j2, hob2, hobj2]) | (simp (disch := (first | omega | (simp only [AL, List.length_map]; omega))) only [AR, AL, ifT, ifF, take_all, List.length_cons, List.length_nil, Int.reduceToNat, Int.reducePow, Nat.reducePow, hd', j0, j41, j7, j2, hob2, hobj2]) | (refine wk_intro (by kernel_rfl) ?_) | (refine wq_no (by kernel_rfl) ?_) | (refine vp_draw (id := 10) (l := [2]) (by kernel_rfl) ?_) | (refine vf_of (by first | exact hc) ?_))
      refine k _ (keep_of (vs := []) fun u huu => ?_) ⟨hd', .inr ⟨g2, ?_, ?_, ?_⟩⟩
      · simp only [up_put, up_set, up_setH]
        have h1 := hu u huu
        exact (hu3 u (by rw [h1]; exact huu)).trans h1
      · simp only [gen_leave, gen_put, gen_set, gen_setH]
        exact hg2
      · simp only [hob_leave, hob_put, hob_set, hob_setH, and_self, if_true]
        rfl
      · simp only [obj_leave, obj_put, obj_set, and_self, if_true]
        rfl
    · repeat (first | (simp only [go_sem, hd', k0, k1, k2, hat, ho, hobj, Bool.not_true, Bool.not_false]) | (simp (disch := (first | omega | (simp only [AL, List.length_map]; omega))) only [AR, AL, ifT, ifF, take_all, List.length_cons, List.length_nil, Int.reduceToNat, Int.reducePow, Nat.reducePow, hd', k0, k1, k2, hat, ho, hobj, Bool.not_true, Bool.not_false]) | (refine wk_intro (by kernel_rfl) ?_) | (refine wq_no (by kernel_rfl) ?_) | (refine vp_draw (id := 10) (l := [2]) (by kernel_rfl) ?_))
      refine sess_insert (t := t) (es := es) (g1 := g1) (g2 := s1.gen 49) hple (by omega) ?_ ?_ ?_
      · simp only [obj_put, obj_new]
        rw [if_neg (by omega)]
        exact hobj
      · simp only [obj_put, obj_new, gen_put, and_self, if_true]
      intro s2 hk2 hg2 hobj2 hhob2
      have j0 : s2.tmp 0 = .ptr d g 0 := (hk2.tmp 0 (by simp only [tmp_put, tmp_new, k0, reduceIte, Nat.reduceEqDiff]; exact hpl)).trans (by simp only [tmp_put, tmp_new, k0, reduceIte, Nat.reduceEqDiff])
      have j41 : s2.tmp 41 = .ptr d g 0 := (hk2.tmp 41 hpl).trans rfl
      have j7 : s2.tmp 7 = .sv (.int .i64 (p : Int)) := (hk2.tmp 7 rfl).trans rfl
      have j2 : s2.tmp 2 = s1.tmp 2 := (hk2.tmp 2 (by simp only [tmp_put, tmp_new, k2, reduceIte, Nat.reduceEqDiff]; rfl)).trans (by simp only [tmp_put, tmp_new, k2, reduceIte, Nat.reduceEqDiff])
      have j2 := j2.trans k2
      have hob2 : s2.hob d g = some [.undef, .sv (.int .i64 D)] := by
        rw [hhob2]
        simp only [hob_put, hob_new]
        rw [ho]
        simp only [Option.map_some, List.map_cons, List.map_nil, TV.kill, and_self, if_true]
      have hgen2 : g1 < s2.gen 25 := Nat.lt_of_lt_of_le hg1 (by simpa only [gen_put, gen_new, reduceIte, Nat.reduceEqDiff] using hg2)
      have hu2 := hk2.up
      have hu3 : ∀ u, plV (s1.up u) = true → s2.up u = s1.up u := hu2
      generalize hE : entC (insE es p (t, 0, [])) = E at *
      clear hk2 hu2 hhob2 k0 k1 k2
      repeat (first | (simp only [go_sem, hd', j0, j41, j7, j2, hob2, hobj2, hlen]) | (simp (disch := (first | omega | (simp only [AL, List.length_map]; omega))) only [AR, AL, ifT, ifF, take_all, List.length_cons, List.length_nil, Int.reduceToNat, Int.reducePow, Nat.reducePow, hd', j0, j41, j7, j2, hob2, hobj2, hlen]) | (refine wk_intro (by kernel_rfl) ?_) | (refine wq_no (by kernel_rfl) ?_) | (refine vp_draw (id := 10) (l := [2]) (by kernel_rfl) ?_) | (refine vf_of (by first | exact hc) ?_))
      refine k _ (keep_of (vs := []) fun u huu => ?_) ⟨hd', .inr ⟨g1, ?_, ?_, ?_⟩⟩
      · simp only [up_put, up_set, up_setH]
        have h1 := hu u huu
        exact (hu3 u (by rw [h1]; exact huu)).trans h1
      · simp only [gen_leave, gen_put, gen_set, gen_setH]
        exact hgen2
      · simp only [hob_leave, hob_put, hob_set, hob_setH, and_self, if_true]
        rw [insE_len hple]
      · simp only [obj_leave, obj_put, obj_set, and_self, if_true]
        exact congrArg some hset
theorem sess_Set_end {m : Nat} {cs rs : List SV} (ht : t.length ≤ 1048576) (hn : nameP t = true) (hp : PosAt es t es.length) (hl : es.length < 16) (hm : m ≤ 256)
    (hc : Go.Ev.Fn CX 33 [.sl m cs] (.sl m rs)) {tl : TV} (htl : tl = .sv (.sl m cs) ∨ (tl = .nil ∧ m = 0 ∧ cs = [])) (h : SessR st d g es D)
    (k : ∀ st', Keep st st' → SessR st' d g (es ++ [(t, m, rs)]) D → WO CX false ops l (st'.putO dst (.sv (.int .i64 0))) Q) :
    WN CX ops l dst st Q 11 [.ptr d g 0, .sv (.str (bs t)), tl] :=
  sess_Set_new ht hn hp (not_at es t) hl hm hc htl h fun st' hk hs => k st' hk (by rw [insE_end] at hs; exact hs)
end
end Go.Proofs.YticocojomlfhgaaGreatDoor
namespace Go.Proofs.YticocojomlfhgaaGreatDoor
open Go.Ev
section
variable {ops : Array Oper} {l : List Oper} {dst : Option Nat} {st : St} {Q : St → Prop} {d g p : Nat} {es : List Ent} {t : List UInt8} {D : Int}
theorem sess_Let_end {x : List UInt8} {qs : List Rat} (ht : t.length ≤ 1048576) (hn : nameP t = true) (hp : PosAt es t es.length) (hl : es.length < 16) (hx : x.length ≤ 100000) (hx2 : parseP x = (0, qs)) (hm : qs.length ≤ 256)
    (h : SessR st d g es D)
    (k : ∀ st', Keep st st' → SessR st' d g (es ++ [(t, qs.length, rvsC qs)]) D → WO CX false ops l (st'.putO dst (.sv (.int .i64 0))) Q) :
    WN CX ops l dst st Q 18 [.ptr d g 0, .sv (.str (bs t)), .sv (.str (bs x))] := by
  have nm := sess_Name t ht
  rw [hn] at nm
  have hP := data_Parse x hx
  have hz : ∀ q ∈ (parseP x).2, szR q 500 := parse_sz
  rw [hx2] at hP hz
  have hc := sess_copied (rvsC_row (L := 500) qs hz) (by omega) (by omega) (by omega)
  have hd' : 2000000 ≤ d := h.ob
  have hpl : plV (.ptr d g 0) = true := decide_eq_true h.ob
  refine wn_of (fn := Tryz.f18) (body := (Tryz.f18).body.get!) (by kernel_rfl) (by kernel_rfl) (by kernel_rfl) (Nat.le_of_ble_eq_true (by kernel_rfl)) ?_; unfold Tryz.f18; simp only [Option.get!_some]
  repeat (first | (simp only [go_sem, hd', Bool.not_true]) | (simp (disch := (first | omega | (simp only [AL, List.length_map]; omega))) only [AR, AL, ifT, ifF, take_all, List.length_cons, List.length_nil, Int.reduceToNat, Int.reducePow, Nat.reducePow, hd', Bool.not_true]) | (refine wk_intro (by kernel_rfl) ?_) | (refine wq_no (by kernel_rfl) ?_) | (refine vf_of (by first | exact nm | exact hP) ?_))
  refine sess_Set_end ht hn hp hl hm hc (.inl rfl) (h.of rfl (fun _ => rfl) (Nat.le_refl _)) ?_
  intro s1 hk hs1
  repeat (first | (simp only [go_sem]) | (simp (disch := (first | omega | (simp only [AL, List.length_map]; omega))) only [AR, AL, ifT, ifF, take_all, List.length_cons, List.length_nil, Int.reduceToNat, Int.reducePow, Nat.reducePow]) | (refine wk_intro (by kernel_rfl) ?_) | (refine wq_no (by kernel_rfl) ?_))
  exact k _ (keep_of (vs := [.ptr d g 0, .sv (.str (bs t)), .sv (.str (bs x))]) fun u huu => hk.up u huu) (hs1.of rfl (fun _ => rfl) (Nat.le_refl _))
theorem sess_Get_at {rs : List SV} (hp : PosAt es t p) (hl : es.length ≤ 100000) (hat : isAt es t p = true) (hc : Go.Ev.Fn CX 33 [.sl (es.getD p default).2.1 (es.getD p default).2.2] (.sl (es.getD p default).2.1 rs)) (h : SessR st d g es D)
    (k : ∀ st', Keep st st' → SessR st' d g es D → WO CX false ops l (st'.putO dst (.sv (.tup [.sl (es.getD p default).2.1 rs, .int .i64 0]))) Q) :
    WN CX ops l dst st Q 12 [.ptr d g 0, .sv (.str (bs t))] := by
  have hd' : 2000000 ≤ d := h.ob
  have hpl : plV (.ptr d g 0) = true := decide_eq_true h.ob
  refine wn_of (fn := Tryz.f12) (body := (Tryz.f12).body.get!) (by kernel_rfl) (by kernel_rfl) (by kernel_rfl) (Nat.le_of_ble_eq_true (by kernel_rfl)) ?_; unfold Tryz.f12; simp only [Option.get!_some]
  repeat (first | (simp only [go_sem, hd']) | (simp (disch := (first | omega | (simp only [AL, List.length_map]; omega))) only [AR, AL, ifT, ifF, take_all, List.length_cons, List.length_nil, Int.reduceToNat, Int.reducePow, Nat.reducePow, hd']) | (refine wk_intro (by kernel_rfl) ?_) | (refine wq_no (by kernel_rfl) ?_))
  refine sess_at hp hl (h.of rfl (fun _ => rfl) (Nat.le_refl _)) ?_
  intro s1 hk hs1
  have k0 : s1.tmp 0 = .ptr d g 0 := hk.tmp 0 hpl
  have hu := hk.up
  clear hk h
  have hs := hs1
  obtain ⟨_, hrow⟩ := hs1
  have hpl : p < es.length := by
    unfold isAt at hat
    rw [Bool.and_eq_true] at hat
    exact of_decide_eq_true hat.1
  rcases hrow with ⟨rfl, _⟩ | ⟨g1, hg1, ho, hobj⟩
  · simp at hpl
  obtain ⟨rest, hx⟩ := ent_at hpl
  have hx1 : (entC es).drop (p * 2 + 1) = .sl (es.getD p default).2.1 (es.getD p default).2.2 :: rest := by
    rw [← List.drop_drop, hx]
    rfl
  have hlen := entC_len es
  repeat (first | (simp only [go_sem, hd', k0, hat, ho, hobj, Bool.not_true, hlen, hx1, List.head?_cons]) | (simp (disch := (first | omega | (simp only [AL, List.length_map]; omega))) only [AR, AL, ifT, ifF, take_all, List.length_cons, List.length_nil, Int.reduceToNat, Int.reducePow, Nat.reducePow, hd', k0, hat, ho, hobj, Bool.not_true, hlen, hx1, List.head?_cons]) | (refine wk_intro (by kernel_rfl) ?_) | (refine wq_no (by kernel_rfl) ?_) | (refine vf_of (by first | exact hc) ?_))
  exact k _ (keep_of (vs := [.ptr d g 0, .sv (.str (bs t))]) fun u huu => hu u huu) (hs.of rfl (fun _ => rfl) (Nat.le_refl _))
end
theorem known_parse22 : parseP [49, 32, 50] = (0, [1, 2]) := by kernel_rfl
theorem known_cells22 : rvsC [1, 2] = [.bool false, natV [1], natV [1], .bool false, natV [2], natV [1]] := by kernel_rfl
theorem law22_known : Go.Ev.Fn CX 15 [] (.bool true) := by
  have hN := sess_New
  have o := ref2_Int 2 (by omega)
  have e5 : (rv (((2 : Int)) : Rat) : SV) = ratV false [2] [1] := by kernel_rfl
  have r1 : RatA (ratV false [2] [1]) 2 1 := ⟨_, _, _, rfl, by simp [okL], by simp [okL], by decide, by decide, by decide⟩
  have sm := ref2_Same r1 r1 (by omega) (by omega) (by omega)
  rw [decide_eq_true rfl] at sm
  rw [e5] at o
  refine Go.Ev.Fn.intro (fn := Tryz.f15) (body := (Tryz.f15).body.get!) (by kernel_rfl) (by kernel_rfl) (by kernel_rfl) (fun _ => rfl) (Nat.le_of_ble_eq_true (by kernel_rfl)) ?_; unfold Tryz.f15; simp only [Option.get!_some]
  repeat (first | (simp only [go_sem]) | (simp (disch := (first | omega | (simp only [AL, List.length_map]; omega))) only [AR, AL, ifT, ifF, take_all, List.length_cons, List.length_nil, Int.reduceToNat, Int.reducePow, Nat.reducePow]) | (refine wk_intro (by kernel_rfl) ?_) | (refine wq_no (by kernel_rfl) ?_) | (refine vp_draw (id := 6) (l := []) (by kernel_rfl) ?_))
  refine vf_heap hN ?_
  repeat (first | (simp only [go_sem]) | (simp (disch := (first | omega | (simp only [AL, List.length_map]; omega))) only [AR, AL, ifT, ifF, take_all, List.length_cons, List.length_nil, Int.reduceToNat, Int.reducePow, Nat.reducePow]) | (refine wk_intro (by kernel_rfl) ?_) | (refine wq_no (by kernel_rfl) ?_) | (refine vp_draw (id := 6) (l := []) (by kernel_rfl) ?_))
  refine sess_Let_end (t := [97]) (es := []) (x := [49, 32, 50]) (qs := [1, 2]) (D := 6) (by decide) (by kernel_rfl) ⟨Nat.le_refl 0, fun k h => absurd h (Nat.not_lt_zero k), fun k _ h => absurd h (Nat.not_lt_zero k)⟩ (by decide) (by decide) known_parse22 (by decide) ⟨by decide, .inl ⟨rfl, rfl⟩⟩ ?_
  intro s1 hk hs1
  have k1 : s1.tmp 1 = .ptr 2000005 1 0 := hk.tmp 1 rfl
  have k0 : s1.tmp 0 = .sv (.bool false) := hk.tmp 0 rfl
  clear hk
  repeat (first | (simp only [go_sem, k1]) | (simp (disch := (first | omega | (simp only [AL, List.length_map]; omega))) only [AR, AL, ifT, ifF, take_all, List.length_cons, List.length_nil, Int.reduceToNat, Int.reducePow, Nat.reducePow, k1]) | (refine wk_intro (by kernel_rfl) ?_) | (refine wq_no (by kernel_rfl) ?_) | (refine vp_draw (id := 6) (l := []) (by kernel_rfl) ?_))
  have hz : ∀ q ∈ (parseP [49, 32, 50]).2, szR q 500 := parse_sz
  rw [known_parse22] at hz
  have hc := sess_copied (rvsC_row (L := 500) [1, 2] hz) (by omega) (by omega) (by decide)
  refine sess_Get_at (t := [97]) (es := [([97], 2, rvsC [1, 2])]) (p := 0) (rs := rvsC [1, 2]) (D := 6) ⟨by decide, fun k h => absurd h (Nat.not_lt_zero k), fun k _ h => ?_⟩ (by decide) (by kernel_rfl) hc (hs1.of rfl (fun _ => rfl) (Nat.le_refl _)) ?_
  · have : k = 0 := by simpa using h
    subst this
    decide
  intro s2 hk2 hs2
  have j1 : s2.tmp 1 = .ptr 2000005 1 0 := (hk2.tmp 1 (by simp only [tmp_put, k1, reduceIte, Nat.reduceEqDiff]; rfl)).trans (by simp only [tmp_put, k1, reduceIte, Nat.reduceEqDiff])
  have j2 : s2.tmp 2 = .sv (.int .i64 0) := hk2.tmp 2 rfl
  have ec : rvsC [1, 2] = [.bool false, natV [1], natV [1], .bool false, natV [2], natV [1]] := known_cells22
  have hob : ∃ te, s2.hob 2000005 1 = some [te, .sv (.int .i64 6)] := by
    rcases hs2.row with ⟨h, _⟩ | ⟨g1, _, h, _⟩
    · cases h
    · exact ⟨_, h⟩
  obtain ⟨te, hob⟩ := hob
  clear hk2 hs2
  repeat (first | (simp only [go_sem, j1, j2, ec, hob, List.getD_cons_zero, List.drop_succ_cons, List.drop_zero, List.head?_cons]) | (simp (disch := (first | omega | (simp only [AL, List.length_map]; omega))) only [AR, AL, ifT, ifF, take_all, List.length_cons, List.length_nil, Int.reduceToNat, Int.reducePow, Nat.reducePow, j1, j2, ec, hob, List.getD_cons_zero, List.drop_succ_cons, List.drop_zero, List.head?_cons]) | (refine wk_intro (by kernel_rfl) ?_) | (refine wq_no (by kernel_rfl) ?_) | (refine vp_draw (id := 6) (l := []) (by kernel_rfl) ?_) | (refine vf_of (by first | exact o | exact sm) ?_))
  refine wl_of (fn := Tryz.f30) (body := (Tryz.f30).body.get!) (.int .i64 6) (by kernel_rfl) (by kernel_rfl) (by kernel_rfl) (by kernel_rfl) (by kernel_rfl) (Nat.le_of_ble_eq_true (by kernel_rfl)) ?_ ?_
  · unfold Tryz.f30
    simp only [Option.get!_some]
    simp only [go_sem, hob]
  simp only [go_sem]
  rfl
end Go.Proofs.YticocojomlfhgaaGreatDoor
namespace Go.Proofs.YticocojomlfhgaaGreatDoor
open Go.Ev
section
variable {ops : Array Oper} {l : List Oper} {dst : Option Nat} {st : St} {Q : St → Prop} {d g p : Nat} {es : List Ent} {t : List UInt8} {D : Int}
theorem sess_Set_full {m : Nat} {cs : List SV} (ht : t.length ≤ 1048576) (hn : nameP t = true) (hp : PosAt es t p) (hl : es.length ≤ 100000) (h16 : 16 ≤ es.length) (hat : isAt es t p = false) {tl : TV} (htl : tl = .sv (.sl m cs) ∨ (tl = .nil ∧ m = 0 ∧ cs = [])) (h : SessR st d g es D)
    (k : ∀ st', Keep st st' → SessR st' d g es D → WO CX false ops l (st'.putO dst (.sv (.int .i64 7))) Q) :
    WN CX ops l dst st Q 11 [.ptr d g 0, .sv (.str (bs t)), tl] := by
  have nm := sess_Name t ht
  rw [hn] at nm
  have hd' : 2000000 ≤ d := h.ob
  have hpt : plV tl = true := by rcases htl with rfl | ⟨rfl, _, _⟩ <;> rfl
  have hpl : plV (.ptr d g 0) = true := decide_eq_true h.ob
  refine wn_of (fn := Tryz.f11) (body := (Tryz.f11).body.get!) (by kernel_rfl) (by kernel_rfl) (by kernel_rfl) (Nat.le_of_ble_eq_true (by kernel_rfl)) ?_; unfold Tryz.f11; simp only [Option.get!_some]
  repeat (first | (simp only [go_sem, hd', Bool.not_true]) | (simp (disch := (first | omega | (simp only [AL, List.length_map]; omega))) only [AR, AL, ifT, ifF, take_all, List.length_cons, List.length_nil, Int.reduceToNat, Int.reducePow, Nat.reducePow, hd', Bool.not_true]) | (refine wk_intro (by kernel_rfl) ?_) | (refine wq_no (by kernel_rfl) ?_) | (refine vp_draw (id := 10) (l := [2]) (by kernel_rfl) ?_) | (refine vf_of (by first | exact nm) ?_))
  refine sess_at hp hl (h.of rfl (fun _ => rfl) (Nat.le_refl _)) ?_
  intro s1 hk hs1
  have k0 : s1.tmp 0 = .ptr d g 0 := hk.tmp 0 hpl
  have k2 : s1.tmp 2 = tl := hk.tmp 2 hpt
  have hu := hk.up
  clear hk h
  have hm : 256 < m ∨ ¬ 256 < m := by omega
  rcases htl with rfl | ⟨rfl, rfl, rfl⟩
  all_goals
    have hs := hs1
    obtain ⟨_, hrow⟩ := hs1
    rcases hrow with ⟨rfl, ho⟩ | ⟨g1, hg1, ho, hobj⟩
    · simp at h16
    rcases hm with hm | hm
    · repeat (first | (simp only [go_sem, hd', k0, k2, hat, ho, hobj, Bool.not_true, Bool.not_false]) | (simp (disch := (first | omega | (simp only [AL, List.length_map]; omega))) only [AR, AL, ifT, ifF, take_all, List.length_cons, List.length_nil, Int.reduceToNat, Int.reducePow, Nat.reducePow, hd', k0, k2, hat, ho, hobj, Bool.not_true, Bool.not_false]) | (refine wk_intro (by kernel_rfl) ?_) | (refine wq_no (by kernel_rfl) ?_) | (refine vp_draw (id := 10) (l := [2]) (by kernel_rfl) ?_))
      exact k _ (keep_of (vs := []) fun u huu => hu u huu) (hs.of rfl (fun _ => rfl) (Nat.le_refl _))
    · repeat (first | (simp only [go_sem, hd', k0, k2, hat, ho, hobj, Bool.not_true, Bool.not_false]) | (simp (disch := (first | omega | (simp only [AL, List.length_map]; omega))) only [AR, AL, ifT, ifF, take_all, List.length_cons, List.length_nil, Int.reduceToNat, Int.reducePow, Nat.reducePow, hd', k0, k2, hat, ho, hobj, Bool.not_true, Bool.not_false]) | (refine wk_intro (by kernel_rfl) ?_) | (refine wq_no (by kernel_rfl) ?_) | (refine vp_draw (id := 10) (l := [2]) (by kernel_rfl) ?_))
      exact k _ (keep_of (vs := []) fun u huu => hu u huu) (hs.of rfl (fun _ => rfl) (Nat.le_refl _))
def namC (es : List Ent) : List SV := es.map fun e => .str (bs e.1)
theorem namC_snoc {es : List Ent} {i : Nat} (h : i < es.length) : namC (es.take i) ++ [.str (bs (es.getD i default).1)] = namC (es.take (i + 1)) := by
  unfold namC
  rw [List.take_add_one, List.map_append, List.getElem?_eq_getElem h]
  simp [List.getD_eq_getElem?_getD, List.getElem?_eq_getElem h]
theorem namC_len (es : List Ent) : (namC es).length = es.length := by unfold namC; rw [List.length_map]
theorem sess_Names (hl : es.length ≤ 100000) (h : SessR st d g es D)
    (k : ∀ st' tv, Keep st st' → SessR st' d g es D → ((es = [] ∧ tv = .nil) ∨ ∃ g', 0 < es.length ∧ tv = .ref 21 g' 1 0 es.length ∧ st'.obj 21 g' = some (namC es)) → WO CX false ops l (st'.putO dst tv) Q) :
    WN CX ops l dst st Q 16 [.ptr d g 0] := by
  have hd' : 2000000 ≤ d := h.ob
  have hs0 := h
  obtain ⟨hd, hrow⟩ := h
  rcases hrow with ⟨rfl, ho⟩ | ⟨g1, hg1, ho, hobj⟩
  · refine wn_of (fn := Tryz.f16) (body := (Tryz.f16).body.get!) (by kernel_rfl) (by kernel_rfl) (by kernel_rfl) (Nat.le_of_ble_eq_true (by kernel_rfl)) ?_; unfold Tryz.f16; simp only [Option.get!_some]
    repeat (first | (simp only [go_sem, hd', ho]) | (simp (disch := (first | omega | (simp only [AL, List.length_map]; omega))) only [AR, AL, ifT, ifF, take_all, List.length_cons, List.length_nil, Int.reduceToNat, Int.reducePow, Nat.reducePow, hd', ho]) | (refine wk_intro (by kernel_rfl) ?_) | (refine wq_no (by kernel_rfl) ?_))
    refine vp_loop_fam (fun n s => n = 0 ∧ s.tmp 12 = .sv (.int .i64 0) ∧ s.tmp 13 = .sv (.int .i64 0) ∧ s.tmp 3 = .nil ∧ s.up = (st.enter [.ptr d g 0]).up ∧ s.hob = st.hob ∧ s.obj = st.obj ∧ s.gen = st.gen) 0 ⟨rfl, rfl, rfl, rfl, rfl, rfl, rfl, rfl⟩ ?_
    rintro n s ⟨-, i12, i13, i3, hup, hhob, hob, hgen⟩
    repeat (first | (simp only [go_sem, i12, i13, i3]) | (simp (disch := (first | omega | (simp only [AL, List.length_map]; omega))) only [AR, AL, ifT, ifF, take_all, List.length_cons, List.length_nil, Int.reduceToNat, Int.reducePow, Nat.reducePow, i12, i13, i3]) | (refine wk_intro (by kernel_rfl) ?_) | (refine wq_no (by kernel_rfl) ?_))
    exact k _ _ (keep_of (vs := [.ptr d g 0]) fun u _ => by simp only [up_put]; rw [hup]) (hs0.of (by simp only [hob_leave, hob_put]; rw [hhob]) (fun _ => by simp only [obj_leave, obj_put]; rw [hob]) (by simp only [gen_leave, gen_put]; rw [hgen]; exact Nat.le_refl _)) (.inl ⟨rfl, rfl⟩)
  · have hlen := entC_len es
    refine wn_of (fn := Tryz.f16) (body := (Tryz.f16).body.get!) (by kernel_rfl) (by kernel_rfl) (by kernel_rfl) (Nat.le_of_ble_eq_true (by kernel_rfl)) ?_; unfold Tryz.f16; simp only [Option.get!_some]
    repeat (first | (simp only [go_sem, hd', ho]) | (simp (disch := (first | omega | (simp only [AL, List.length_map]; omega))) only [AR, AL, ifT, ifF, take_all, List.length_cons, List.length_nil, Int.reduceToNat, Int.reducePow, Nat.reducePow, hd', ho]) | (refine wk_intro (by kernel_rfl) ?_) | (refine wq_no (by kernel_rfl) ?_))
    refine vp_loop_inv (fun s => s.tmp 11 = .ref 25 g1 2 0 es.length ∧ s.tmp 12 = .sv (.int .i64 (es.length : Int)) ∧ s.obj 25 g1 = some (entC es) ∧ s.hob d g = some [.ref 25 g1 2 0 es.length, .sv (.int .i64 D)] ∧ st.gen 25 ≤ s.gen 25 ∧ (∀ u, plV ((st.enter [.ptr d g 0]).up u) = true → s.up u = (st.enter [.ptr d g 0]).up u) ∧
        ∃ i : Nat, s.tmp 13 = .sv (.int .i64 (i : Int)) ∧ i ≤ es.length ∧ ((i = 0 ∧ s.tmp 3 = .nil) ∨ ∃ g3, 0 < i ∧ s.tmp 3 = .ref 21 g3 1 0 i ∧ s.obj 21 g3 = some (namC (es.take i))))
      (fun s => match s.tmp 13 with | .sv (.int _ i) => es.length - i.toNat | _ => 0) ?_ ?_
    · exact ⟨rfl, rfl, hobj, ho, Nat.le_refl _, fun _ _ => rfl, 0, rfl, by omega, .inl ⟨rfl, rfl⟩⟩
    rintro s ⟨i11, i12, iO, iH, iG, iU, i, i13, hi, hcase⟩
    by_cases hend : i = es.length
    · subst hend
      rcases hcase with ⟨h0, i3⟩ | ⟨g3, h0, i3, iN⟩
      · have e0 : es = [] := List.eq_nil_of_length_eq_zero h0
        repeat (first | (simp only [go_sem, i11, i12, iO, i13, i3]) | (simp (disch := (first | omega | (simp only [AL, List.length_map]; omega))) only [AR, AL, ifT, ifF, take_all, List.length_cons, List.length_nil, Int.reduceToNat, Int.reducePow, Nat.reducePow, i11, i12, iO, i13, i3]) | (refine wk_intro (by kernel_rfl) ?_) | (refine wq_no (by kernel_rfl) ?_))
        exact k _ _ (keep_of (vs := [.ptr d g 0]) fun u huu => iU u huu) ⟨hd', .inr ⟨g1, Nat.lt_of_lt_of_le hg1 iG, iH, iO⟩⟩ (.inl ⟨e0, rfl⟩)
      rw [List.take_length] at iN
      repeat (first | (simp only [go_sem, i11, i12, iO, i13, i3]) | (simp (disch := (first | omega | (simp only [AL, List.length_map]; omega))) only [AR, AL, ifT, ifF, take_all, List.length_cons, List.length_nil, Int.reduceToNat, Int.reducePow, Nat.reducePow, i11, i12, iO, i13, i3]) | (refine wk_intro (by kernel_rfl) ?_) | (refine wq_no (by kernel_rfl) ?_))
      exact k _ _ (keep_of (vs := [.ptr d g 0]) fun u huu => iU u huu) ⟨hd', .inr ⟨g1, Nat.lt_of_lt_of_le hg1 iG, iH, iO⟩⟩ (.inr ⟨g3, h0, rfl, iN⟩)
    · obtain ⟨rest, hat⟩ := ent_at (es := es) (k := i) (by omega)
      have hsn := namC_snoc (es := es) (i := i) (by omega)
      have hnl := namC_len (es.take i)
      rw [List.length_take, Nat.min_eq_left (by omega)] at hnl
      rcases hcase with ⟨h0, i3⟩ | ⟨g3, h0, i3, iN⟩
      · subst h0
        rw [Nat.zero_mul, List.drop_zero] at hat
        repeat (first | (simp only [go_sem, i11, i12, iO, i13, i3, hlen, hat]) | (simp (disch := (first | omega | (simp only [AL, List.length_map]; omega))) only [AR, AL, ifT, ifF, take_all, List.length_cons, List.length_nil, Int.reduceToNat, Int.reducePow, Nat.reducePow, i11, i12, iO, i13, i3, hlen, hat]) | (refine wk_intro (by kernel_rfl) ?_) | (refine wq_no (by kernel_rfl) ?_))
        exact ⟨⟨iH, iG, fun u hu => iU u hu, 1, rfl, by omega, .inr ⟨s.gen 21, by omega, rfl, by rw [if_pos rfl, ← hsn]; rfl⟩⟩, by omega⟩
      · repeat (first | (simp only [go_sem, i11, i12, iO, i13, i3, iN, hlen, hat, N0, hnl]) | (simp (disch := (first | omega | (simp only [AL, List.length_map]; omega))) only [AR, AL, ifT, ifF, take_all, List.length_cons, List.length_nil, Int.reduceToNat, Int.reducePow, Nat.reducePow, i11, i12, iO, i13, i3, iN, hlen, hat, N0, hnl]) | (refine wk_intro (by kernel_rfl) ?_) | (refine wq_no (by kernel_rfl) ?_))
        refine ⟨⟨?_, iG, fun u hu => ?_, i + 1, rfl, by omega, .inr ⟨g3, by omega, rfl, ?_⟩⟩, by omega⟩
        · rw [iH]
          rfl
        · show (s.up u).kill 21 g3 = _
          have h1 := iU u hu
          rw [h1]
          exact kill_pl hu (by decide)
        · rw [if_pos rfl, hsn]
end
end Go.Proofs.YticocojomlfhgaaGreatDoor
