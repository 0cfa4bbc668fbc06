/- Part 9 of the proof: the evaluator, contracts of functions and their plain laws (joined by program). No condition. -/
import Derived.Test.YticocojomlfhgaaGreatDoorPart8
set_option linter.unusedVariables false
set_option linter.unusedSimpArgs false
set_option maxRecDepth 100000
namespace Go.Proofs.YticocojomlfhgaaGreatDoor
open Go.Ev
theorem x_cmp (a b : List UInt8) : Go.Ev.Fn CX 98 [.str (bs a), .str (bs b)] (.int .i64 (Lib.compareBytes a b)) := by
  refine ⟨1, List.replicate 2 none, ?_⟩
  have h4 : CX.X 98 ([SV.str (bs a), .str (bs b)].map Arg.sv) = some (.sv (.int .i64 (Lib.compareBytes a b)), List.replicate 2 none) := by
    show xCmp [.sv (.str (bs a)), .sv (.str (bs b))] = _
    unfold xCmp
    simp only [bs_toList]
  unfold callN
  rw [stq_sv, h4]
theorem str_Compare (a b : List UInt8) : Go.Ev.Fn CX 47 [.str (bs a), .str (bs b)] (.int .i64 (Lib.compareBytes a b)) := by
  have h0 := x_cmp a b
  have h1 : Go.Ev.Fn CX 68 [.str (bs a), .str (bs b)] (.int .i64 (Lib.compareBytes a b)) := by
    refine fni Tryz.f68 ?_; unfold Tryz.f68; simp only [Option.get!_some]
    simp only [go_sem]
    refine vf_of (h0) ?_; simp only [go_sem]
  refine fni Tryz.f47 ?_; unfold Tryz.f47; simp only [Option.get!_some]
  simp only [go_sem]
  refine vf_of (h1) ?_; simp only [go_sem]
theorem sess_by (a b : List UInt8) (n : Nat) (rs : List SV) : Go.Ev.Fn CX 46 [.agg [.str (bs a), .sl n rs], .str (bs b)] (.int .i64 (Lib.compareBytes a b)) := by
  have h0 := str_Compare a b
  refine fni Tryz.f46 ?_; unfold Tryz.f46; simp only [Option.get!_some]
  simp only [go_sem]
  refine vf_of (h0) ?_; simp only [go_sem]
def letB : List UInt8 := [97, 98, 99, 100, 101, 102, 103, 104, 105, 106, 107, 108, 109, 110, 111, 112, 113, 114, 115, 116, 117, 118, 119, 120, 121, 122]
def sgnB : List UInt8 := letB ++ [48, 49, 50, 51, 52, 53, 54, 55, 56, 57]
def nameP (l : List UInt8) : Bool := match l with
  | [] => false
  | b :: r => decide (r.length < 12) && (decide (0 <= Lib.indexByte letB b) && (Lib.trimS (b :: r) sgnB).isEmpty)
theorem isEmpty_beq (l : List UInt8) : (l == []) = l.isEmpty := by cases l <;> rfl
theorem sess_Name (l : List UInt8) (hl : l.length <= 1048576) : Go.Ev.Fn CX 23 [.str (bs l)] (.bool (nameP l)) := by
  cases l with
  | nil =>
    have h0 : (([] : List UInt8) == []) = true := rfl
    refine fni Tryz.f23 ?_; unfold Tryz.f23; simp only [Option.get!_some]
    repeat (first | simp only [go_sem, mk_bs, bs_eq, h0, Bool.not_true] | simp (disch := first | exact oa | fail) only [AX, Int.reduceToNat, Int.reducePow, Nat.reducePow, mk_bs, bs_eq, h0, Bool.not_true] | refine wki ?_ | refine wqn ?_)
    rfl
  | cons b r =>
    have hi := str_IndexByte letB b
    have ht := x_trim (b :: r) sgnB (by omega) (by decide) (by decide)
    have hn : ((b :: r) == ([] : List UInt8)) = false := rfl
    have hx : (b :: r)[0]? = some b := rfl
    have hsz : (b :: r).length = r.length + 1 := rfl
    have hnp : nameP (b :: r) = (decide (r.length < 12) && (decide (0 <= Lib.indexByte letB b) && (Lib.trimS (b :: r) sgnB).isEmpty)) := rfl
    rw [hnp]
    generalize (b :: r) = l at *
    generalize hT : Lib.trimS l sgnB = T at *
    generalize hI : Lib.indexByte letB b = z at *
    rw [show letB = [97, 98, 99, 100, 101, 102, 103, 104, 105, 106, 107, 108, 109, 110, 111, 112, 113, 114, 115, 116, 117, 118, 119, 120, 121, 122] from rfl] at hi
    rw [show sgnB = [97, 98, 99, 100, 101, 102, 103, 104, 105, 106, 107, 108, 109, 110, 111, 112, 113, 114, 115, 116, 117, 118, 119, 120, 121, 122, 48, 49, 50, 51, 52, 53, 54, 55, 56, 57] from rfl] at ht
    clear hT hI
    by_cases h1 : r.length < 12
    · have d1 := decide_eq_true h1
      by_cases h2 : 0 <= z
      · have d2 := decide_eq_true h2
        refine fni Tryz.f23 ?_; unfold Tryz.f23; simp only [Option.get!_some]
        repeat (first | simp only [go_sem, mk_bs, bs_eq, bs_size, hn, hsz, hx, vo_ix, idxB_bs, Bool.not_false, d1, d2, ge_iff_le, isEmpty_beq, Option.map_some] | simp (disch := first | exact oa | fail) only [AX, Int.reduceToNat, Int.reducePow, Nat.reducePow, mk_bs, bs_eq, bs_size, hn, hsz, hx, vo_ix, idxB_bs, Bool.not_false, d1, d2, ge_iff_le, isEmpty_beq, Option.map_some] | refine wki ?_ | refine wqn ?_ | refine vf_of (by first | exact hi | exact ht) ?_)
      · have d2 := decide_eq_false h2
        refine fni Tryz.f23 ?_; unfold Tryz.f23; simp only [Option.get!_some]
        repeat (first | simp only [go_sem, mk_bs, bs_eq, bs_size, hn, hsz, hx, vo_ix, idxB_bs, Bool.not_false, d1, d2, ge_iff_le, isEmpty_beq, Option.map_some] | simp (disch := first | exact oa | fail) only [AX, Int.reduceToNat, Int.reducePow, Nat.reducePow, mk_bs, bs_eq, bs_size, hn, hsz, hx, vo_ix, idxB_bs, Bool.not_false, d1, d2, ge_iff_le, isEmpty_beq, Option.map_some] | refine wki ?_ | refine wqn ?_ | refine vf_of (by first | exact hi) ?_)
        rw [Bool.false_and]
    · refine fni Tryz.f23 ?_; unfold Tryz.f23; simp only [Option.get!_some]
      repeat (first | simp only [go_sem, mk_bs, bs_eq, bs_size, hn, hsz, Bool.not_false] | simp (disch := first | exact oa | fail) only [AX, Int.reduceToNat, Int.reducePow, Nat.reducePow, mk_bs, bs_eq, bs_size, hn, hsz, Bool.not_false] | refine wki ?_ | refine wqn ?_)
      simp [h1]
theorem rvs_snocA {l : List Rat} {i : Nat} (h : i < l.length) : rvsC (l.take i) ++ rvC (l.getD i 0) = rvsC (l.take (i + 1)) := by rw [take_snoc l h, rvsC_snoc]
theorem sess_copied {cs : List SV} {l : List Rat} {L : Nat} (h : RowC cs l L) (hL : 1 <= L) (hL2 : L <= 10000) (hl : l.length <= 100000) : Go.Ev.Fn CX 33 [.sl l.length cs] (.sl l.length (rvsC l)) := by
  have hlen := row_len h
  refine fni Tryz.f33 ?_; unfold Tryz.f33; simp only [Option.get!_some]
  repeat (first | simp only [go_sem] | simp (disch := first | exact oa | fail) only [AX, Int.reduceToNat, Int.reducePow, Nat.reducePow] | refine wki ?_ | refine wqn ?_)
  refine vp_loop_inv (fun s => s.tmp 6 = .sv (.sl l.length cs) /\ s.tmp 7 = .sv (.int .i64 (l.length : Int)) /\ ∃ i : Nat, s.tmp 8 = .sv (.int .i64 (i : Int)) /\ i <= l.length /\
      ((i = 0 /\ s.tmp 3 = .nil /\ s.gen 16 = 0) \/ (0 < i /\ s.tmp 3 = .ref 16 0 3 0 i /\ s.obj 16 0 = some (rvsC (l.take i)))))
    (fun s => match s.tmp 8 with | .sv (.int _ i) => l.length - i.toNat | _ => 0) ⟨rfl, rfl, 0, rfl, by omega, .inl ⟨rfl, rfl, rfl⟩⟩ ?_
  rintro s2 ⟨i6, i7, i, i8, hi, hcase⟩
  by_cases hend : i = l.length
  · subst hend
    rw [List.take_length] at hcase
    rcases hcase with ⟨h0, i3, _⟩ | ⟨h0, i3, iO⟩
    · have : l = [] := List.eq_nil_of_length_eq_zero h0
      subst this
      repeat (first | simp only [go_sem, i6, i7, i8, i3] | simp (disch := first | exact oa | fail) only [AX, Int.reduceToNat, Int.reducePow, Nat.reducePow, i6, i7, i8, i3] | refine wki ?_ | refine wqn ?_)
      first | rfl | skip
    · have hrl := rvsC_len l
      repeat (first | simp only [go_sem, i6, i7, i8, i3, iO] | simp (disch := first | exact oa | fail) only [AX, Int.reduceToNat, Int.reducePow, Nat.reducePow, i6, i7, i8, i3, iO] | refine wki ?_ | refine wqn ?_)
      refine ro_ref (cs := rvsC l) (by decide) ?_ ?_
      · simp only [go_sem, i3, iO]
      · rw [List.drop_zero, List.take_of_length_le (by omega)]
  · obtain ⟨s, n, d, rest, hat, hA⟩ := row_at (i := i) h (by omega)
    have a := rat_Norm hA (by omega)
    have hsn := rvs_snocA (l := l) (i := i) (by omega)
    have hrl := rvsC_len (l.take i)
    rw [List.length_take, Nat.min_eq_left (by omega)] at hrl
    clear h hA
    rcases hcase with ⟨h00, i3, ig⟩ | ⟨h00, i3, iO⟩
    · subst h00
      rw [List.take_zero, rvsC_nil, List.nil_append] at hsn
      rw [Nat.zero_mul, List.drop_zero] at hat
      subst hat
      repeat (first | simp only [go_sem, i6, i7, i3, i8, ig, N0, rvC] | simp (disch := first | exact oa | fail) only [AX, Int.reduceToNat, Int.reducePow, Nat.reducePow, i6, i7, i3, i8, ig, N0, rvC] | refine wki ?_ | refine wqn ?_ | refine vf_of (by first | exact a) ?_)
      exact ⟨⟨1, rfl, by omega, .inr ⟨by omega, rfl, by first | (rw [<- hsn]; rfl) | rw [<- hsn]⟩⟩, by omega⟩
    · unfold rvC at hsn
      repeat (first | simp only [go_sem, i6, i7, i3, i8, iO, hat, hlen, N0, hsn, hrl, rvC] | simp (disch := first | exact oa | fail) only [AX, Int.reduceToNat, Int.reducePow, Nat.reducePow, i6, i7, i3, i8, iO, hat, hlen, N0, hsn, hrl, rvC] | refine wki ?_ | refine wqn ?_ | refine vf_of (by first | exact a) ?_)
      exact ⟨⟨i + 1, rfl, by omega, .inr ⟨by omega, rfl, by first | (rw [<- hsn]; rfl) | rw [<- hsn]⟩⟩, by omega⟩
theorem sess_New : FnH CX 10 [] [.nil, .sv (.int .i64 6)] := ⟨20, [], by kernel_rfl⟩
end Go.Proofs.YticocojomlfhgaaGreatDoor
namespace Go.Proofs.YticocojomlfhgaaGreatDoor
open Go.Ev
abbrev Ent := List UInt8 × Nat × List SV
def entC (es : List Ent) : List SV := es.flatMap fun e => [.str (bs e.1), .sl e.2.1 e.2.2]
theorem entC_cons (e : Ent) (es : List Ent) : entC (e :: es) = .str (bs e.1) :: .sl e.2.1 e.2.2 :: entC es := by unfold entC; simp
theorem entC_len : ∀ es : List Ent, (entC es).length = es.length * 2
  | [] => rfl
  | e :: es => by rw [entC_cons, List.length_cons, List.length_cons, entC_len es, List.length_cons]; omega
theorem entC_one : ∀ es : List Ent, oneAll (entC es) = true
  | [] => rfl
  | e :: es => by
    have := entC_one es
    unfold oneAll at this ⊢
    rw [entC_cons, List.all_cons, List.all_cons, this]
    rfl
theorem entC_app (a b : List Ent) : entC (a ++ b) = entC a ++ entC b := by unfold entC; simp
theorem ent_at : ∀ {es : List Ent} {k : Nat}, k < es.length -> ∃ rest, (entC es).drop (k * 2) = .str (bs (es.getD k default).1) :: .sl (es.getD k default).2.1 (es.getD k default).2.2 :: rest
  | e :: es, 0, _ => ⟨entC es, by rw [Nat.zero_mul, List.drop_zero, entC_cons]; rfl⟩
  | e :: es, k + 1, h => by
    obtain ⟨rest, hr⟩ := ent_at (es := es) (k := k) (by simpa using h)
    refine ⟨rest, ?_⟩
    rw [entC_cons, show (k + 1) * 2 = k * 2 + 2 by omega, List.drop_succ_cons, List.drop_succ_cons, hr]
    rfl
def cmpAt (es : List Ent) (k : Nat) (t : List UInt8) : Int := Lib.compareBytes (es.getD k default).1 t
structure PosAt (es : List Ent) (t : List UInt8) (p : Nat) : Prop where
  le : p <= es.length
  lo : ∀ k, k < p -> cmpAt es k t < 0
  hi : ∀ k, p <= k -> k < es.length -> ¬ cmpAt es k t < 0
def isAt (es : List Ent) (t : List UInt8) (p : Nat) : Bool := decide (p < es.length) && (cmpAt es p t == 0)
theorem exp_search {s : St} {cs : List SV} {n : Nat} {x y : SV} : expOf s [.impref cs 2 0 n, .sv x, .sv y] = [s.obj 1000000 0, none, none] := rfl
theorem sess_search {es : List Ent} {t : List UInt8} {p : Nat} (hp : PosAt es t p) (hl : es.length <= 100000) :
    FnI CX 45 [.impref (entC es) 2 0 es.length, .sv (.str (bs t)), .sv (.fn 46 [])] (.tup [.int .i64 p, .bool (isAt es t p)]) [some (entC es), none, none] := by
  have key : ∃ r exps, (r = .tup [.int .i64 p, .bool (isAt es t p)] /\ exps = [some (entC es), none, none]) /\ FnI CX 45 [.impref (entC es) 2 0 es.length, .sv (.str (bs t)), .sv (.fn 46 [])] r exps := by
    refine FnI_of (fn := Tryz.f45) (body := (Tryz.f45).body.get!) (by kernel_rfl) (by kernel_rfl) (by kernel_rfl) (fun _ => rfl) (Nat.le_of_ble_eq_true (by kernel_rfl)) ?_
    unfold Tryz.f45
    simp only [Option.get!_some, exp_search]
    repeat (first | simp only [go_sem, N0] | simp (disch := first | exact oa | fail) only [AX, Int.reduceToNat, Int.reducePow, Nat.reducePow, N0] | refine wki ?_ | refine wqn ?_)
    refine vp_loop_inv (fun s => s.tmp 0 = .ref 1000000 0 2 0 es.length /\ s.tmp 1 = .sv (.str (bs t)) /\ s.tmp 2 = .sv (.fn 46 []) /\ s.obj 1000000 0 = some (entC es) /\ s.tmp 8 = .sv (.int .i64 (es.length : Int)) /\
        ∃ i j : Nat, s.tmp 9 = .sv (.int .i64 (i : Int)) /\ s.tmp 10 = .sv (.int .i64 (j : Int)) /\ i <= p /\ p <= j /\ j <= es.length)
      (fun s => match s.tmp 9, s.tmp 10 with | .sv (.int _ i), .sv (.int _ j) => j.toNat - i.toNat | _, _ => 0) ⟨rfl, rfl, rfl, rfl, rfl, 0, es.length, rfl, rfl, by omega, hp.le, by omega⟩ ?_
    rintro s ⟨i0, i1, i2, iO, i8, i, j, i9, i10, hi, hj, hjl⟩
    by_cases hend : i = j
    · have : i = p := by omega
      subst this
      subst hend
      by_cases hlt : i < es.length
      · obtain ⟨rest, hat⟩ := ent_at hlt
        have c := sess_by (es.getD i default).1 t (es.getD i default).2.1 (es.getD i default).2.2
        have hfi : isAt es t i = (Lib.compareBytes (es.getD i default).1 t == 0) := by unfold isAt cmpAt; rw [decide_eq_true hlt, Bool.true_and]
        rw [hfi]
        generalize Lib.compareBytes (es.getD i default).1 t = z at *
        repeat (first | simp only [go_sem, i0, i1, i2, iO, i8, i9, i10, hat] | simp (disch := first | exact oa | fail) only [AX, Int.reduceToNat, Int.reducePow, Nat.reducePow, i0, i1, i2, iO, i8, i9, i10, hat] | refine wki ?_ | refine wqn ?_)
        refine vf_of (c) ?_; repeat (first | simp only [go_sem, i0, i1, i2, iO, i8, i9, i10, hat] | simp (disch := first | exact oa | fail) only [AX, Int.reduceToNat, Int.reducePow, Nat.reducePow, i0, i1, i2, iO, i8, i9, i10, hat] | refine wki ?_ | refine wqn ?_)
        refine ⟨_, _, ⟨rfl, rfl⟩, ?_, rfl⟩
        simp only [go_sem]
      · have hfi : isAt es t i = false := by unfold isAt; rw [decide_eq_false hlt, Bool.false_and]
        rw [hfi]
        repeat (first | simp only [go_sem, i0, i1, i2, iO, i8, i9, i10] | simp (disch := first | exact oa | fail) only [AX, Int.reduceToNat, Int.reducePow, Nat.reducePow, i0, i1, i2, iO, i8, i9, i10] | refine wki ?_ | refine wqn ?_)
        refine ⟨_, _, ⟨rfl, rfl⟩, ?_, rfl⟩
        simp only [go_sem]
    · have hh : ∃ h, (i + j) / 2 = h := ⟨_, rfl⟩
      obtain ⟨h, hh⟩ := hh
      have hhj : h < j := by omega
      have hih : i <= h := by omega
      obtain ⟨rest, hat⟩ := ent_at (es := es) (k := h) (by omega)
      have c := sess_by (es.getD h default).1 t (es.getD h default).2.1 (es.getD h default).2.2
      have hlo := hp.lo h
      have hhi := hp.hi h
      unfold cmpAt at hlo hhi
      generalize Lib.compareBytes (es.getD h default).1 t = z at *
      have hlen := entC_len es
      by_cases hz : z < 0
      · have dz := decide_eq_true hz
        repeat (first | simp only [go_sem, i0, i1, i2, iO, i8, i9, i10, hh, hlen, hat] | simp (disch := first | exact oa | fail) only [AX, Int.reduceToNat, Int.reducePow, Nat.reducePow, i0, i1, i2, iO, i8, i9, i10, hh, hlen, hat] | refine wki ?_ | refine wqn ?_)
        refine vf_of (c) ?_; repeat (first | simp only [go_sem, i0, i1, i2, iO, i8, i9, i10, hh, hlen, hat, dz] | simp (disch := first | exact oa | fail) only [AX, Int.reduceToNat, Int.reducePow, Nat.reducePow, i0, i1, i2, iO, i8, i9, i10, hh, hlen, hat, dz] | refine wki ?_ | refine wqn ?_)
        exact ⟨⟨h + 1, j, rfl, rfl, by omega, hj, hjl⟩, by omega⟩
      · have dz := decide_eq_false hz
        repeat (first | simp only [go_sem, i0, i1, i2, iO, i8, i9, i10, hh, hlen, hat] | simp (disch := first | exact oa | fail) only [AX, Int.reduceToNat, Int.reducePow, Nat.reducePow, i0, i1, i2, iO, i8, i9, i10, hh, hlen, hat] | refine wki ?_ | refine wqn ?_)
        refine vf_of (c) ?_; repeat (first | simp only [go_sem, i0, i1, i2, iO, i8, i9, i10, hh, hlen, hat, dz] | simp (disch := first | exact oa | fail) only [AX, Int.reduceToNat, Int.reducePow, Nat.reducePow, i0, i1, i2, iO, i8, i9, i10, hh, hlen, hat, dz] | refine wki ?_ | refine wqn ?_)
        exact ⟨⟨i, h, rfl, rfl, hi, by omega, by omega⟩, by omega⟩
  obtain ⟨r, exps, ⟨rfl, rfl⟩, h⟩ := key
  exact h
end Go.Proofs.YticocojomlfhgaaGreatDoor
namespace Go.Proofs.YticocojomlfhgaaGreatDoor
open Go.Ev
def TP (n : Nat) : Bool := Nat.beq n 21 || (Nat.beq n 25 || Nat.beq n 51)
def plT (T : Nat -> Bool) : TV -> Bool
  | .sv _ => true
  | .nil => true
  | .undef => true
  | .ptr d _ _ => !T d
  | .ref d _ _ _ _ => !T d
  | .rfc d _ _ _ _ _ => !T d
  | .skip => true
abbrev plV : TV -> Bool := plT TP
theorem nbeq {a b : Nat} (h : a ≠ b) : Nat.beq a b = false := by
  cases e : Nat.beq a b with
  | false => rfl
  | true => exact absurd (Nat.eq_of_beq_eq_true e) h
theorem tp_ob {d : Nat} (h : H0 <= d) : TP d = false := by
  have h : 2000000 <= d := h
  unfold TP
  rw [nbeq (a := d) (b := 21) (by omega), nbeq (a := d) (b := 25) (by omega), nbeq (a := d) (b := 51) (by omega)]
  rfl
theorem pl_ob {d g o : Nat} (h : H0 <= d) : plV (.ptr d g o) = true := by
  show (!TP d) = true
  rw [tp_ob h]
  rfl
section
variable {T : Nat -> Bool}
theorem kill_pl {v : TV} {d g : Nat} (h : plT T v = true) (hd : T d = true) : v.kill d g = v := by
  have key : ∀ d', (!T d') = true -> ¬ (d' = d /\ ∃ x : Nat, x = g) := fun d' h e => by rw [e.1, hd] at h; cases h
  cases v with
  | ptr d' g' off => exact if_neg fun e => key d' h ⟨e.1, _, e.2⟩
  | ref d' g' a b c => exact if_neg fun e => key d' h ⟨e.1, _, e.2⟩
  | rfc d' g' a b c e' => exact if_neg fun e => key d' h ⟨e.1, _, e.2⟩
  | _ => rfl
theorem frz_pl {v : TV} {d g : Nat} {cs : List SV} (h : plT T v = true) (hd : T d = true) : v.frz d g cs = v := by
  have key : ∀ d', (!T d') = true -> ¬ (d' = d /\ ∃ x : Nat, x = g) := fun d' h e => by rw [e.1, hd] at h; cases h
  cases v with
  | ptr d' g' off => exact if_neg fun e => key d' h ⟨e.1, _, e.2⟩
  | ref d' g' a b c => exact if_neg fun e => key d' h ⟨e.1, _, e.2⟩
  | rfc d' g' a b c e' => exact if_neg fun e => key d' h ⟨e.1, _, e.2⟩
  | _ => rfl
end
theorem up_even {st : St} {vs : List TV} {t : Nat} : (st.enter vs).up (2 * t) = st.tmp t := by
  rw [up_enter, if_pos (by omega), show 2 * t / 2 = t by omega]
theorem up_odd {st : St} {vs : List TV} {t : Nat} : (st.enter vs).up (2 * t + 1) = st.up t := by
  rw [up_enter, if_neg (by omega), show (2 * t + 1) / 2 = t by omega]
structure Kp (T : Nat -> Bool) (d : Nat) (st s : St) : Prop where
  up : ∀ u, plT T (st.up u) = true -> s.up u = st.up u
  obj : ∀ n g, T n = false -> g < st.gen n -> s.obj n g = st.obj n g
  gen : ∀ n, st.gen n <= s.gen n
  hob : ∀ d' g' ts, d' ≠ d -> st.hob d' g' = some ts -> (∀ t ∈ ts, plT T t = true) -> s.hob d' g' = some ts
structure KeepT (T : Nat -> Bool) (d : Nat) (st st' : St) : Prop extends Kp T d st st' where
  tmp : ∀ t, plT T (st.tmp t) = true -> st'.tmp t = st.tmp t
abbrev Keep := KeepT TP
section
variable {T : Nat -> Bool} {d : Nat} {st s : St}
theorem Kp.refl : Kp T d st st := ⟨fun _ _ => rfl, fun _ _ _ _ => rfl, fun _ => Nat.le_refl _, fun _ _ _ _ h _ => h⟩
theorem Kp.trans {a b c : St} (h : Kp T d a b) (k : Kp T d b c) : Kp T d a c :=
  ⟨fun u hu => (k.up u (by rw [h.up u hu]; exact hu)).trans (h.up u hu), fun n g hn hg => (k.obj n g hn (Nat.lt_of_lt_of_le hg (h.gen n))).trans (h.obj n g hn hg), fun n => Nat.le_trans (h.gen n) (k.gen n),
    fun d' g' ts hd ho hp => k.hob d' g' ts hd (h.hob d' g' ts hd ho hp) hp⟩
theorem Kp.put {t : Nat} {v : TV} (h : Kp T d st s) : Kp T d st (s.put t v) := ⟨h.up, h.obj, h.gen, h.hob⟩
theorem Kp.set {n g : Nat} {cs : List SV} (hn : T n = true) (h : Kp T d st s) : Kp T d st (s.set n g cs) :=
  ⟨h.up, fun n' g' hn' hg => (if_neg fun e => by rw [e.1, hn] at hn'; cases hn').trans (h.obj n' g' hn' hg), h.gen, h.hob⟩
theorem Kp.new {t : Nat} {cs : List SV} {v : TV} (h : Kp T d st s) : Kp T d st (s.new t cs v) :=
  ⟨h.up, fun n g hn hg => (if_neg fun e => absurd (h.gen n) (by rw [e.1] at hg ⊢; omega)).trans (h.obj n g hn hg), fun n => Nat.le_trans (h.gen n) (by rw [gen_new]; split <;> rename_i e <;> (try rw [e]) <;> omega), h.hob⟩
theorem Kp.newset {t : Nat} {cs cs' : List SV} {v : TV} (h : Kp T d st s) : Kp T d st ((s.new t cs v).set t (s.gen t) cs') :=
  ⟨h.up, fun n g hn hg => (if_neg fun e => absurd (h.gen n) (by rw [e.1] at hg ⊢; omega)).trans ((h.new (t := t) (cs := cs) (v := v)).obj n g hn hg), (h.new (t := t) (cs := cs) (v := v)).gen, h.hob⟩
theorem Kp.setH {g : Nat} {ts : List TV} (h : Kp T d st s) : Kp T d st (s.setH d g ts) :=
  ⟨h.up, h.obj, h.gen, fun d' g' ts hd ho hp => (if_neg fun e => hd e.1).trans (h.hob d' g' ts hd ho hp)⟩
theorem map_kill {n g : Nat} {ts : List TV} (hn : T n = true) (hp : ∀ t ∈ ts, plT T t = true) : (ts.map fun t => t.kill n g) = ts := by
  refine (List.map_congr_left fun t ht => kill_pl (hp t ht) hn).trans (List.map_id' ts)
theorem map_frz {n g : Nat} {cs : List SV} {ts : List TV} (hn : T n = true) (hp : ∀ t ∈ ts, plT T t = true) : (ts.map fun t => t.frz n g cs) = ts := by
  refine (List.map_congr_left fun t ht => frz_pl (hp t ht) hn).trans (List.map_id' ts)
theorem Kp.frzd {n g : Nat} {cs : List SV} (hn : T n = true) (h : Kp T d st s) : Kp T d st (s.frzd n g cs) :=
  ⟨fun u hu => (congrArg (TV.frz n g cs) (h.up u hu)).trans (frz_pl hu hn), fun n' g' hn' hg => (if_neg fun e => by rw [e.1, hn] at hn'; cases hn').trans (h.obj n' g' hn' hg), h.gen,
    fun d' g' ts hd ho hp => by
      show Option.map (fun ts => ts.map fun t => t.frz n g cs) (s.hob d' g') = some ts
      rw [h.hob d' g' ts hd ho hp]
      exact congrArg some (map_frz hn hp)⟩
theorem Kp.grow {t n g a b c : Nat} {cs : List SV} (hn : T n = true) (h : Kp T d st s) : Kp T d st (s.grow t n g a b c cs) :=
  ⟨fun u hu => (congrArg (TV.kill n g) (h.up u hu)).trans (kill_pl hu hn), fun n' g' hn' hg => (if_neg fun e => by rw [e.1, hn] at hn'; cases hn').trans (h.obj n' g' hn' hg), h.gen,
    fun d' g' ts hd ho hp => by
      show Option.map (fun ts => ts.map fun t => t.kill n g) (s.hob d' g') = some ts
      rw [h.hob d' g' ts hd ho hp]
      exact congrArg some (map_kill hn hp)⟩
theorem Kp.ins {n g : Nat} {cs : List SV} (hn : T n = true) (h : Kp T d st s) : Kp T d st (insSt s n g cs) :=
  ⟨fun u hu => (congrArg (TV.kill n g) (h.up u hu)).trans (kill_pl hu hn), fun n' g' hn' hg => (if_neg fun e => by rw [e.1, hn] at hn'; cases hn').trans (h.obj n' g' hn' hg), fun n => Nat.le_succ_of_le (h.gen n),
    fun d' g' ts hd ho hp => by
      show Option.map (fun ts => ts.map fun t => t.kill n g) (s.hob d' g') = some ts
      rw [h.hob d' g' ts hd ho hp]
      exact congrArg some (map_kill hn hp)⟩
theorem KeepT.kp {st' : St} (h : KeepT T d st st') : Kp T d st st' := h.toKp
theorem keep_of {vs : List TV} (h : Kp T d (st.enter vs) s) : KeepT T d st s.leave :=
  { up := fun t ht => by rw [up_leave, h.up (2 * t + 1) (by rw [up_odd]; exact ht), up_odd]
    tmp := fun t ht => by rw [tmp_leave, h.up (2 * t) (by rw [up_even]; exact ht), up_even]
    obj := h.obj
    gen := h.gen
    hob := h.hob }
theorem KeepT.trans {a b c : St} (h : KeepT T d a b) (k : KeepT T d b c) : KeepT T d a c :=
  { h.kp.trans k.kp with tmp := fun t ht => by rw [k.tmp t (by rw [h.tmp t ht]; exact ht), h.tmp t ht] }
end
structure SessR (st : St) (d g : Nat) (es : List Ent) (D : Int) : Prop where
  ob : H0 <= d
  row : (es = [] /\ st.hob d g = some [.nil, .sv (.int .i64 D)]) \/ ∃ g1, g1 < st.gen 25 /\ st.hob d g = some [.ref 25 g1 2 0 es.length, .sv (.int .i64 D)] /\ st.obj 25 g1 = some (entC es)
theorem SessR.of {st s : St} {d g : Nat} {es : List Ent} {D : Int} (h : SessR st d g es D) (h1 : s.hob d g = st.hob d g) (h2 : ∀ g1, s.obj 25 g1 = st.obj 25 g1) (h3 : st.gen 25 <= s.gen 25) : SessR s d g es D := by
  obtain ⟨hd, hrow⟩ := h
  refine ⟨hd, ?_⟩
  rcases hrow with ⟨e, ho⟩ | ⟨g1, hg1, ho, hobj⟩
  · exact .inl ⟨e, h1.trans ho⟩
  · exact .inr ⟨g1, Nat.lt_of_lt_of_le hg1 h3, h1.trans ho, (h2 g1).trans hobj⟩
theorem search_nil (t : List UInt8) : Go.Ev.Fn CX 45 [.sl 0 [], .str (bs t), .fn 46 []] (.tup [.int .i64 0, .bool false]) := by
  refine fni Tryz.f45 ?_; unfold Tryz.f45; simp only [Option.get!_some]
  repeat (first | simp only [go_sem] | simp (disch := first | exact oa | fail) only [AX, Int.reduceToNat, Int.reducePow, Nat.reducePow] | refine wki ?_ | refine wqn ?_)
  refine vp_loop_inv (fun s => s.tmp 8 = .sv (.int .i64 0) /\ s.tmp 9 = .sv (.int .i64 0) /\ s.tmp 10 = .sv (.int .i64 0)) (fun _ => 0) ⟨rfl, rfl, rfl⟩ ?_
  rintro s ⟨i8, i9, i10⟩
  repeat (first | simp only [go_sem, i8, i9, i10] | simp (disch := first | exact oa | fail) only [AX, Int.reduceToNat, Int.reducePow, Nat.reducePow, i8, i9, i10] | refine wki ?_ | refine wqn ?_)
section
variable {ops : Array Oper} {l : List Oper} {dst : Option Nat} {st : St} {Q : St -> Prop} {d g p : Nat} {es : List Ent} {t : List UInt8} {D : Int}
structure Same (st st' : St) : Prop where
  tmp : ∀ t, st'.tmp t = st.tmp t
  up : ∀ t, st'.up t = st.up t
  obj : ∀ d g, st'.obj d g = st.obj d g
  gen : st'.gen = st.gen
  hob : st'.hob = st.hob
theorem Same.keep {T : Nat -> Bool} {d : Nat} {st st' : St} (h : Same st st') : KeepT T d st st' :=
  { up := fun t _ => h.up t, tmp := fun t _ => h.tmp t, obj := fun n g _ _ => h.obj n g, gen := fun n => by rw [h.gen]; exact Nat.le_refl _, hob := fun d' g' ts _ ho _ => by rw [h.hob]; exact ho }
theorem same_leave {st b s1 s : St} {vs : List TV} (h : Same b s1) (hb : b.up = (st.enter vs).up) (hb2 : b.obj = st.obj) (hb3 : b.gen = st.gen) (hb4 : b.hob = st.hob) (hs : s.up = s1.up) (hs2 : s.obj = s1.obj) (hs3 : s.gen = s1.gen) (hs4 : s.hob = s1.hob) : Same st s.leave :=
  ⟨fun t => by rw [tmp_leave, hs, h.up, hb, up_even], fun t => by rw [up_leave, hs, h.up, hb, up_odd], fun d g => by rw [obj_leave, hs2, h.obj, hb2], by rw [gen_leave, hs3, h.gen, hb3], by rw [hob_leave, hs4, h.hob, hb4]⟩
theorem sess_atS (hp : PosAt es t p) (hl : es.length <= 100000) (h : SessR st d g es D)
    (k : ∀ st', Same st st' -> WO CX false ops l (st'.putO dst (.sv (.tup [.int .i64 p, .bool (isAt es t p)]))) Q) :
    WN CX ops l dst st Q 31 [.ptr d g 0, .sv (.str (bs t))] := by
  obtain ⟨hd, hrow⟩ := h
  have hd' : 2000000 <= d := hd
  rcases hrow with ⟨rfl, ho⟩ | ⟨g1, hg1, ho, hobj⟩
  · have : p = 0 := by have := hp.le; simpa using this
    subst this
    have c := search_nil t
    refine wni Tryz.f31 ?_; unfold Tryz.f31; simp only [Option.get!_some]
    repeat (first | simp only [go_sem, hd', ho] | simp (disch := first | exact oa | fail) only [AX, Int.reduceToNat, Int.reducePow, Nat.reducePow, hd', ho] | refine wki ?_ | refine wqn ?_ | refine vf_of (by first | exact c) ?_)
    exact k _ ⟨fun u => by simp only [tmp_leave, up_put, up_even], fun u => by simp only [up_leave, up_put, up_odd], fun _ _ => rfl, rfl, rfl⟩
  · have c := sess_search hp hl
    refine wni Tryz.f31 ?_; unfold Tryz.f31; simp only [Option.get!_some]
    repeat (first | simp only [go_sem, hd', ho, hobj] | simp (disch := first | exact oa | fail) only [AX, Int.reduceToNat, Int.reducePow, Nat.reducePow, hd', ho, hobj] | refine wki ?_ | refine wqn ?_)
    refine vi_of c rfl ?_
    repeat (first | simp only [go_sem, hd', ho, hobj] | simp (disch := first | exact oa | fail) only [AX, Int.reduceToNat, Int.reducePow, Nat.reducePow, hd', ho, hobj] | refine wki ?_ | refine wqn ?_)
    refine k _ ⟨fun u => by simp only [tmp_leave, up_put, up_set, up_even], fun u => by simp only [up_leave, up_put, up_set, up_odd], fun d2 g2 => ?_, rfl, rfl⟩
    simp only [obj_leave, obj_put, obj_set]
    split
    · rename_i e
      rw [e.1, e.2, <- hobj]
    · rfl
theorem sess_at (hp : PosAt es t p) (hl : es.length <= 100000) (h : SessR st d g es D)
    (k : ∀ st', Keep d st st' -> SessR st' d g es D -> WO CX false ops l (st'.putO dst (.sv (.tup [.int .i64 p, .bool (isAt es t p)]))) Q) :
    WN CX ops l dst st Q 31 [.ptr d g 0, .sv (.str (bs t))] :=
  sess_atS hp hl h fun s hs => k s hs.keep (h.of (by rw [hs.hob]) (fun _ => hs.obj _ _) (by rw [hs.gen]; exact Nat.le_refl _))
theorem sess_insert_nil {g2 : Nat} (h2 : st.obj 49 g2 = some [.str (bs t), .sl 0 []])
    (k : ∀ st' g', Keep d st st' -> g' < st'.gen 25 -> st'.obj 25 g' = some (entC [(t, 0, [])]) -> st'.hob = st.hob -> WO CX false ops l (st'.putO dst (.ref 25 g' 2 0 1)) Q) :
    WN CX ops l dst st Q 32 [.nil, .sv (.int .i64 0), .ref 49 g2 2 0 1] := by
  refine wni Tryz.f32 ?_; unfold Tryz.f32; simp only [Option.get!_some]
  repeat (first | simp only [go_sem, h2] | simp (disch := first | exact oa | fail) only [AX, Int.reduceToNat, Int.reducePow, Nat.reducePow, h2] | refine wki ?_ | refine wqn ?_ | refine vpd 11 [] ?_ | refine vpd 15 [] ?_)
  refine k _ (st.gen 25) (keep_of (by repeat (first | exact Kp.refl | refine Kp.put ?_ | refine Kp.setH ?_ | refine Kp.newset ?_ | refine Kp.set rfl ?_ | refine Kp.set (by assumption) ?_ | refine Kp.new ?_ | refine Kp.grow rfl ?_ | refine Kp.frzd rfl ?_ | refine Kp.ins rfl ?_))) ?_ ?_ ?_
  · simp only [gen_leave, gen_put, gen_new, gen_enter, if_true]
    omega
  · simp only [obj_leave, obj_put, obj_new, gen_put, gen_enter, and_self, if_true]
    rfl
  · simp only [hob_leave, hob_put, hob_new, hob_enter]
def insE (es : List Ent) (p : Nat) (e : Ent) : List Ent := es.take p ++ e :: es.drop p
theorem insE_len {es : List Ent} {p : Nat} {e : Ent} (hp : p <= es.length) : (insE es p e).length = es.length + 1 := by
  unfold insE
  rw [List.length_append, List.length_cons, List.length_take, List.length_drop]
  omega
theorem insE_end {es : List Ent} {e : Ent} : insE es es.length e = es ++ [e] := by
  unfold insE
  rw [List.take_length, List.drop_length]
theorem entC_take {es : List Ent} {p : Nat} (hp : p <= es.length) : entC (es.take p) = (entC es).take (p * 2) /\ entC (es.drop p) = (entC es).drop (p * 2) := by
  have h := entC_app (es.take p) (es.drop p)
  rw [List.take_append_drop] at h
  have hl : (entC (es.take p)).length = p * 2 := by rw [entC_len, List.length_take]; omega
  constructor
  · rw [h, <- hl, List.take_left]
  · rw [h, <- hl, List.drop_left]
theorem entC_ins {es : List Ent} {p : Nat} (hp : p <= es.length) {n : List UInt8} {m : Nat} {cs : List SV} : entC (insE es p (n, m, cs)) = (entC es).take (p * 2) ++ [.str (bs n), .sl m cs] ++ (entC es).drop (p * 2) := by
  unfold insE
  rw [entC_app, entC_cons, (entC_take hp).1, (entC_take hp).2, List.append_assoc]
  rfl
theorem sess_insert {g1 g2 : Nat} (hp : p <= es.length) (hl : es.length <= 100000) (h1 : st.obj 25 g1 = some (entC es)) (h2 : st.obj 49 g2 = some [.str (bs t), .sl 0 []])
    (k : ∀ st', Keep d st st' -> st.gen 25 <= st'.gen 25 -> st'.obj 25 g1 = some (entC (insE es p (t, 0, []))) -> (∀ d g, st'.hob d g = (st.hob d g).map fun ts => ts.map fun t => t.kill 25 g1) -> WO CX false ops l (st'.putO dst (.ref 25 g1 2 0 (es.length + 1))) Q) :
    WN CX ops l dst st Q 32 [.ref 25 g1 2 0 es.length, .sv (.int .i64 (p : Int)), .ref 49 g2 2 0 1] := by
  refine wn_by (st' := insSt st 25 g1 (entC (insE es p (t, 0, [])))) (r := .ref 25 g1 2 0 (es.length + 1)) (e := []) ?_ (k _ { Kp.ins rfl Kp.refl with tmp := fun u hu => kill_pl hu rfl } (Nat.le_succ _) (if_pos ⟨rfl, rfl⟩) fun _ _ => rfl)
  have e : CX.X 32 [.st false st [.ref 25 g1 2 0 es.length, .sv (.int .i64 (p : Int)), .ref 49 g2 2 0 1]] = xIns [.st false st [.ref 25 g1 2 0 es.length, .sv (.int .i64 (p : Int)), .ref 49 g2 2 0 1]] := rfl
  rw [e]
  unfold xIns
  simp only [h1, h2]
  rw [if_pos ⟨by decide, by omega, entC_len es, entC_one es, by omega, by omega, hl⟩, entC_ins hp, Int.toNat_natCast]
theorem sess_delete {g1 : Nat} (hp : p < es.length) (hl : es.length <= 100000) (h1 : st.obj 25 g1 = some (entC es))
    (k : ∀ st', Keep d st st' -> st.gen 25 <= st'.gen 25 -> st'.obj 25 g1 = some (entC (es.take p ++ es.drop (p + 1))) -> (∀ d g, st'.hob d g = (st.hob d g).map fun ts => ts.map fun t => t.kill 25 g1) -> WO CX false ops l (st'.putO dst (.ref 25 g1 2 0 (es.length - 1))) Q) :
    WN CX ops l dst st Q 38 [.ref 25 g1 2 0 es.length, .sv (.int .i64 (p : Int)), .sv (.int .i64 ((p + 1 : Nat) : Int))] := by
  refine wn_by (st' := insSt st 25 g1 (entC (es.take p ++ es.drop (p + 1)))) (r := .ref 25 g1 2 0 (es.length - 1)) (e := []) ?_ (k _ { Kp.ins rfl Kp.refl with tmp := fun u hu => kill_pl hu rfl } (Nat.le_succ _) (if_pos ⟨rfl, rfl⟩) fun _ _ => rfl)
  have e : CX.X 38 [.st false st [.ref 25 g1 2 0 es.length, .sv (.int .i64 (p : Int)), .sv (.int .i64 ((p + 1 : Nat) : Int))]] = xDel [.st false st [.ref 25 g1 2 0 es.length, .sv (.int .i64 (p : Int)), .sv (.int .i64 ((p + 1 : Nat) : Int))]] := rfl
  rw [e]
  unfold xDel
  simp only [h1]
  rw [if_pos ⟨by decide, entC_len es, entC_one es, by omega, by omega, by omega, hl⟩, entC_app, (entC_take (by omega)).1, (entC_take (by omega)).2, Int.toNat_natCast, show (p + 1) * 2 = p * 2 + 2 by omega]
end
end Go.Proofs.YticocojomlfhgaaGreatDoor
namespace Go.Proofs.YticocojomlfhgaaGreatDoor
open Go.Ev
theorem ent_set : ∀ {es : List Ent} {k : Nat} {n : Nat} {cs : List SV}, k < es.length -> splice (entC es) (k * 2 + 1) [.sl n cs] = entC (es.set k ((es.getD k default).1, n, cs))
  | e :: es, 0, n, cs, _ => by
    rw [entC_cons, List.set_cons_zero, entC_cons]
    rfl
  | e :: es, k + 1, n, cs, h => by
    have := ent_set (es := es) (k := k) (n := n) (cs := cs) (by simpa using h)
    rw [entC_cons, List.set_cons_succ, entC_cons, show (k + 1) * 2 + 1 = (k * 2 + 1) + 2 by omega]
    unfold splice at this ⊢
    rw [List.take_succ_cons, List.take_succ_cons, List.getD_cons_succ, <- this]
    simp only [List.length_cons, List.length_nil]
    rw [show k * 2 + 1 + 2 + (0 + 1) = (k * 2 + 1 + (0 + 1)) + 2 by omega, List.drop_succ_cons, List.drop_succ_cons]
    rfl
theorem cmp_zero : ∀ {a b : List UInt8}, Lib.compareBytes a b = 0 -> a = b
  | [], [], _ => rfl
  | [], _ :: _, h => by simp [Lib.compareBytes] at h
  | _ :: _, [], h => by simp [Lib.compareBytes] at h
  | x :: a, y :: b, h => by
    unfold Lib.compareBytes at h
    split at h
    · cases h
    · rename_i h1
      split at h
      · cases h
      · rename_i h2
        have e : x = y := UInt8.le_antisymm (UInt8.not_lt.1 h2) (UInt8.not_lt.1 h1)
        rw [e, cmp_zero h]
theorem name_at {es : List Ent} {t : List UInt8} {p : Nat} (h : isAt es t p = true) : (es.getD p default).1 = t := by
  unfold isAt cmpAt at h
  rw [Bool.and_eq_true] at h
  exact cmp_zero (by simpa using h.2)
section
variable {ops : Array Oper} {l : List Oper} {dst : Option Nat} {st : St} {Q : St -> Prop} {d g p : Nat} {es : List Ent} {t : List UInt8} {D : Int}
theorem sess_Set_at {m : Nat} {cs rs : List SV} (ht : t.length <= 1048576) (hn : nameP t = true) (hp : PosAt es t p) (hl : es.length <= 100000) (hm : m <= 256) (hat : isAt es t p = true)
    (hc : Go.Ev.Fn CX 33 [.sl m cs] (.sl m rs)) {tl : TV} (htl : tl = .sv (.sl m cs) \/ (tl = .nil /\ m = 0 /\ cs = [])) (h : SessR st d g es D)
    (k : ∀ st', Keep d st st' -> SessR st' d g (es.set p (t, m, rs)) D -> WO CX false ops l (st'.putO dst (.sv (.int .i64 0))) Q) :
    WN CX ops l dst st Q 11 [.ptr d g 0, .sv (.str (bs t)), tl] := by
  have nm := sess_Name t ht
  rw [hn] at nm
  have hd' : 2000000 <= d := h.ob
  have hpt : plV tl = true := by rcases htl with rfl | ⟨rfl, _, _⟩ <;> rfl
  refine wni Tryz.f11 ?_; unfold Tryz.f11; simp only [Option.get!_some]
  repeat (first | simp only [go_sem, hd', Bool.not_true] | simp (disch := first | exact oa | fail) only [AX, Int.reduceToNat, Int.reducePow, Nat.reducePow, hd', Bool.not_true] | refine wki ?_ | refine wqn ?_ | refine vpd 10 [2] ?_ | refine vf_of (by first | exact nm) ?_)
  have hpl : plV (.ptr d g 0) = true := pl_ob h.ob
  refine sess_at hp hl (h.of rfl (fun _ => rfl) (Nat.le_refl _)) ?_
  intro s1 hk hs1
  have k0 : s1.tmp 0 = .ptr d g 0 := hk.tmp 0 hpl
  have k1 : s1.tmp 1 = .sv (.str (bs t)) := hk.tmp 1 rfl
  have k2 : s1.tmp 2 = tl := hk.tmp 2 hpt
  have hu := hk.kp
  clear hk h
  have hpl : p < es.length := by
    unfold isAt at hat
    rw [Bool.and_eq_true] at hat
    exact of_decide_eq_true hat.1
  have hset := ent_set (n := m) (cs := rs) hpl
  have hname : (es.getD p default).1 = t := name_at hat
  rw [hname] at hset
  unfold splice at hset
  rcases htl with rfl | ⟨rfl, rfl, rfl⟩
  all_goals
    obtain ⟨_, hrow⟩ := hs1
    rcases hrow with ⟨rfl, _⟩ | ⟨g1, hg1, ho, hobj⟩
    · simp at hpl
    have hlen := entC_len es
    repeat (first | simp only [go_sem, hd', k0, k1, k2, hat, ho, hobj, Bool.not_true, hlen] | simp (disch := first | exact oa | fail) only [AX, Int.reduceToNat, Int.reducePow, Nat.reducePow, hd', k0, k1, k2, hat, ho, hobj, Bool.not_true, hlen] | refine wki ?_ | refine wqn ?_ | refine vpd 10 [2] ?_ | refine vf_of (by first | exact hc) ?_)
    refine k _ (keep_of (by repeat (first | exact Kp.refl | exact hu | refine Kp.trans ?_ hu | refine Kp.put ?_ | refine Kp.setH ?_ | refine Kp.newset ?_ | refine Kp.set rfl ?_ | refine Kp.set (by assumption) ?_ | refine Kp.new ?_ | refine Kp.grow rfl ?_ | refine Kp.frzd rfl ?_ | refine Kp.ins rfl ?_))) ⟨hd', .inr ⟨g1, hg1, ?_, ?_⟩⟩
    · simp only [hob_leave, hob_put, hob_set]
      rw [ho, List.length_set]
    · simp only [obj_leave, obj_put, obj_set, and_self, if_true]
      exact congrArg some hset
theorem not_at (es : List Ent) (t : List UInt8) : isAt es t es.length = false := by
  unfold isAt
  rw [decide_eq_false (Nat.lt_irrefl _), Bool.false_and]
theorem insE_set {es : List Ent} {p : Nat} (hp : p <= es.length) {n : List UInt8} {m : Nat} {cs : List SV} {e : Ent} (he : e.1 = n) : ((insE es p e).getD p default).1 = n /\ (insE es p e).set p (n, m, cs) = insE es p (n, m, cs) := by
  have hl : (es.take p).length = p := by rw [List.length_take]; omega
  unfold insE
  constructor
  · rw [List.getD_eq_getElem?_getD, List.getElem?_append_right (by omega), hl, Nat.sub_self]
    exact he
  · rw [List.set_append_right _ _ (by omega), hl, Nat.sub_self]
    rfl
theorem sess_Set_new {m : Nat} {cs rs : List SV} (ht : t.length <= 1048576) (hn : nameP t = true) (hp : PosAt es t p) (hat : isAt es t p = false) (hl : es.length < 16) (hm : m <= 256)
    (hc : Go.Ev.Fn CX 33 [.sl m cs] (.sl m rs)) {tl : TV} (htl : tl = .sv (.sl m cs) \/ (tl = .nil /\ m = 0 /\ cs = [])) (h : SessR st d g es D)
    (k : ∀ st', Keep d st st' -> SessR st' d g (insE es p (t, m, rs)) D -> WO CX false ops l (st'.putO dst (.sv (.int .i64 0))) Q) :
    WN CX ops l dst st Q 11 [.ptr d g 0, .sv (.str (bs t)), tl] := by
  have nm := sess_Name t ht
  rw [hn] at nm
  have hple := hp.le
  have hd' : 2000000 <= d := h.ob
  have hpt : plV tl = true := by rcases htl with rfl | ⟨rfl, _, _⟩ <;> rfl
  have hpl : plV (.ptr d g 0) = true := pl_ob h.ob
  refine wni Tryz.f11 ?_; unfold Tryz.f11; simp only [Option.get!_some]
  repeat (first | simp only [go_sem, hd', Bool.not_true] | simp (disch := first | exact oa | fail) only [AX, Int.reduceToNat, Int.reducePow, Nat.reducePow, hd', Bool.not_true] | refine wki ?_ | refine wqn ?_ | refine vpd 10 [2] ?_ | refine vf_of (by first | exact nm) ?_)
  refine sess_at hp (by omega) (h.of rfl (fun _ => rfl) (Nat.le_refl _)) ?_
  intro s1 hk hs1
  have k0 : s1.tmp 0 = .ptr d g 0 := hk.tmp 0 hpl
  have k1 : s1.tmp 1 = .sv (.str (bs t)) := hk.tmp 1 rfl
  have k2 : s1.tmp 2 = tl := hk.tmp 2 hpt
  have hu := hk.kp
  clear hk h
  have hlen := entC_len (insE es p (t, 0, []))
  rw [insE_len hple] at hlen
  have hset := ent_set (es := insE es p (t, 0, [])) (k := p) (n := m) (cs := rs) (by rw [insE_len hple]; omega)
  rw [(insE_set (m := m) (cs := rs) hple rfl).1, (insE_set hple rfl).2] at hset
  unfold splice at hset
  rcases htl with rfl | ⟨rfl, rfl, rfl⟩
  all_goals
    obtain ⟨_, hrow⟩ := hs1
    rcases hrow with ⟨rfl, ho⟩ | ⟨g1, hg1, ho, hobj⟩
    · have hp0 : p = 0 := by simpa using hple
      subst hp0
      repeat (first | simp only [go_sem, hd', k0, k1, k2, hat, ho, Bool.not_true, Bool.not_false] | simp (disch := first | exact oa | fail) only [AX, Int.reduceToNat, Int.reducePow, Nat.reducePow, hd', k0, k1, k2, hat, ho, Bool.not_true, Bool.not_false] | refine wki ?_ | refine wqn ?_ | refine vpd 10 [2] ?_)
      refine sess_insert_nil (d := d) (t := t) (g2 := s1.gen 49) ?_ ?_
      · simp only [obj_put, obj_new, gen_put, and_self, if_true]
      intro s2 g2 hk2 hg2 hobj2 hhob2
      have j0 : s2.tmp 0 = .ptr d g 0 := (hk2.tmp 0 (by simp only [tmp_put, tmp_new, k0, reduceIte, Nat.reduceEqDiff]; exact hpl)).trans (by simp only [tmp_put, tmp_new, k0, reduceIte, Nat.reduceEqDiff])
      have j41 : s2.tmp 41 = .ptr d g 0 := (hk2.tmp 41 hpl).trans rfl
      have j7 : s2.tmp 7 = .sv (.int .i64 0) := (hk2.tmp 7 rfl).trans rfl
      have j2 : s2.tmp 2 = s1.tmp 2 := (hk2.tmp 2 (by simp only [tmp_put, tmp_new, k2, reduceIte, Nat.reduceEqDiff]; rfl)).trans (by simp only [tmp_put, tmp_new, k2, reduceIte, Nat.reduceEqDiff])
      have j2 := j2.trans k2
      have hob2 : s2.hob d g = some [.nil, .sv (.int .i64 D)] := by rw [hhob2]; exact ho
      have hobj2 : s2.obj 25 g2 = some [.str (bs t), .sl 0 []] := hobj2
      have hu2 := hk2.kp
      clear hk2 hhob2 k0 k1 k2
      repeat (first | simp only [go_sem, hd', j0, j41, j7, j2, hob2, hobj2] | simp (disch := first | exact oa | fail) only [AX, Int.reduceToNat, Int.reducePow, Nat.reducePow, hd', j0, j41, j7, j2, hob2, hobj2] | refine wki ?_ | refine wqn ?_ | refine vpd 10 [2] ?_ | refine vf_of (by first | exact hc) ?_)
      refine k _ (keep_of (by repeat (first | exact Kp.refl | exact hu2 | exact hu | refine Kp.trans ?_ hu2 | refine Kp.trans ?_ hu | refine Kp.put ?_ | refine Kp.setH ?_ | refine Kp.newset ?_ | refine Kp.set rfl ?_ | refine Kp.set (by assumption) ?_ | refine Kp.new ?_ | refine Kp.grow rfl ?_ | refine Kp.frzd rfl ?_ | refine Kp.ins rfl ?_))) ⟨hd', .inr ⟨g2, ?_, ?_, ?_⟩⟩
      · simp only [gen_leave, gen_put, gen_set, gen_setH]
        exact hg2
      · simp only [hob_leave, hob_put, hob_set, hob_setH, and_self, if_true]
        rfl
      · simp only [obj_leave, obj_put, obj_set, and_self, if_true]
        rfl
    · repeat (first | simp only [go_sem, hd', k0, k1, k2, hat, ho, hobj, Bool.not_true, Bool.not_false] | simp (disch := first | exact oa | fail) only [AX, Int.reduceToNat, Int.reducePow, Nat.reducePow, hd', k0, k1, k2, hat, ho, hobj, Bool.not_true, Bool.not_false] | refine wki ?_ | refine wqn ?_ | refine vpd 10 [2] ?_)
      refine sess_insert (d := d) (t := t) (es := es) (g1 := g1) (g2 := s1.gen 49) hple (by omega) ?_ ?_ ?_
      · simp only [obj_put, obj_new]
        rw [if_neg (by omega)]
        exact hobj
      · simp only [obj_put, obj_new, gen_put, and_self, if_true]
      intro s2 hk2 hg2 hobj2 hhob2
      have j0 : s2.tmp 0 = .ptr d g 0 := (hk2.tmp 0 (by simp only [tmp_put, tmp_new, k0, reduceIte, Nat.reduceEqDiff]; exact hpl)).trans (by simp only [tmp_put, tmp_new, k0, reduceIte, Nat.reduceEqDiff])
      have j41 : s2.tmp 41 = .ptr d g 0 := (hk2.tmp 41 hpl).trans rfl
      have j7 : s2.tmp 7 = .sv (.int .i64 (p : Int)) := (hk2.tmp 7 rfl).trans rfl
      have j2 : s2.tmp 2 = s1.tmp 2 := (hk2.tmp 2 (by simp only [tmp_put, tmp_new, k2, reduceIte, Nat.reduceEqDiff]; rfl)).trans (by simp only [tmp_put, tmp_new, k2, reduceIte, Nat.reduceEqDiff])
      have j2 := j2.trans k2
      have hob2 : s2.hob d g = some [.undef, .sv (.int .i64 D)] := by
        rw [hhob2]
        simp only [hob_put, hob_new]
        rw [ho]
        simp only [Option.map_some, List.map_cons, List.map_nil, TV.kill, and_self, if_true]
      have hgen2 : g1 < s2.gen 25 := Nat.lt_of_lt_of_le hg1 (by simpa only [gen_put, gen_new, reduceIte, Nat.reduceEqDiff] using hg2)
      have hu2 := hk2.kp
      generalize hE : entC (insE es p (t, 0, [])) = E at *
      clear hk2 hhob2 k0 k1 k2
      repeat (first | simp only [go_sem, hd', j0, j41, j7, j2, hob2, hobj2, hlen] | simp (disch := first | exact oa | fail) only [AX, Int.reduceToNat, Int.reducePow, Nat.reducePow, hd', j0, j41, j7, j2, hob2, hobj2, hlen] | refine wki ?_ | refine wqn ?_ | refine vpd 10 [2] ?_ | refine vf_of (by first | exact hc) ?_)
      refine k _ (keep_of (by repeat (first | exact Kp.refl | exact hu2 | exact hu | refine Kp.trans ?_ hu2 | refine Kp.trans ?_ hu | refine Kp.put ?_ | refine Kp.setH ?_ | refine Kp.newset ?_ | refine Kp.set rfl ?_ | refine Kp.set (by assumption) ?_ | refine Kp.new ?_ | refine Kp.grow rfl ?_ | refine Kp.frzd rfl ?_ | refine Kp.ins rfl ?_))) ⟨hd', .inr ⟨g1, ?_, ?_, ?_⟩⟩
      · simp only [gen_leave, gen_put, gen_set, gen_setH]
        exact hgen2
      · simp only [hob_leave, hob_put, hob_set, hob_setH, and_self, if_true]
        rw [insE_len hple]
      · simp only [obj_leave, obj_put, obj_set, and_self, if_true]
        exact congrArg some hset
theorem sess_Set_end {m : Nat} {cs rs : List SV} (ht : t.length <= 1048576) (hn : nameP t = true) (hp : PosAt es t es.length) (hl : es.length < 16) (hm : m <= 256)
    (hc : Go.Ev.Fn CX 33 [.sl m cs] (.sl m rs)) {tl : TV} (htl : tl = .sv (.sl m cs) \/ (tl = .nil /\ m = 0 /\ cs = [])) (h : SessR st d g es D)
    (k : ∀ st', Keep d st st' -> SessR st' d g (es ++ [(t, m, rs)]) D -> WO CX false ops l (st'.putO dst (.sv (.int .i64 0))) Q) :
    WN CX ops l dst st Q 11 [.ptr d g 0, .sv (.str (bs t)), tl] :=
  sess_Set_new ht hn hp (not_at es t) hl hm hc htl h fun st' hk hs => k st' hk (by rw [insE_end] at hs; exact hs)
end
end Go.Proofs.YticocojomlfhgaaGreatDoor
namespace Go.Proofs.YticocojomlfhgaaGreatDoor
open Go.Ev
section
variable {ops : Array Oper} {l : List Oper} {dst : Option Nat} {st : St} {Q : St -> Prop} {d g p : Nat} {es : List Ent} {t : List UInt8} {D : Int}
theorem sess_Let_end {x : List UInt8} {qs : List Rat} (ht : t.length <= 1048576) (hn : nameP t = true) (hp : PosAt es t es.length) (hl : es.length < 16) (hx : x.length <= 100000) (hx2 : parseP x = (0, qs)) (hm : qs.length <= 256)
    (h : SessR st d g es D)
    (k : ∀ st', Keep d st st' -> SessR st' d g (es ++ [(t, qs.length, rvsC qs)]) D -> WO CX false ops l (st'.putO dst (.sv (.int .i64 0))) Q) :
    WN CX ops l dst st Q 18 [.ptr d g 0, .sv (.str (bs t)), .sv (.str (bs x))] := by
  have nm := sess_Name t ht
  rw [hn] at nm
  have hP := data_Parse x hx
  have hz : ∀ q ∈ (parseP x).2, szR q 500 := parse_sz
  rw [hx2] at hP hz
  have hc := sess_copied (rvsC_row (L := 500) qs hz) (by omega) (by omega) (by omega)
  have hd' : 2000000 <= d := h.ob
  have hpl : plV (.ptr d g 0) = true := pl_ob h.ob
  refine wni Tryz.f18 ?_; unfold Tryz.f18; simp only [Option.get!_some]
  repeat (first | simp only [go_sem, hd', Bool.not_true] | simp (disch := first | exact oa | fail) only [AX, Int.reduceToNat, Int.reducePow, Nat.reducePow, hd', Bool.not_true] | refine wki ?_ | refine wqn ?_ | refine vf_of (by first | exact nm | exact hP) ?_)
  refine sess_Set_end ht hn hp hl hm hc (.inl rfl) (h.of rfl (fun _ => rfl) (Nat.le_refl _)) ?_
  intro s1 hk hs1
  repeat (first | simp only [go_sem] | simp (disch := first | exact oa | fail) only [AX, Int.reduceToNat, Int.reducePow, Nat.reducePow] | refine wki ?_ | refine wqn ?_)
  exact k _ (keep_of (by repeat (first | exact Kp.refl | exact hk.kp | refine Kp.trans ?_ hk.kp | refine Kp.put ?_ | refine Kp.setH ?_ | refine Kp.newset ?_ | refine Kp.set rfl ?_ | refine Kp.set (by assumption) ?_ | refine Kp.new ?_ | refine Kp.grow rfl ?_ | refine Kp.frzd rfl ?_ | refine Kp.ins rfl ?_))) (hs1.of rfl (fun _ => rfl) (Nat.le_refl _))
theorem sess_Get_atS {rs : List SV} (hp : PosAt es t p) (hl : es.length <= 100000) (hat : isAt es t p = true) (hc : Go.Ev.Fn CX 33 [.sl (es.getD p default).2.1 (es.getD p default).2.2] (.sl (es.getD p default).2.1 rs)) (h : SessR st d g es D)
    (k : ∀ st', Same st st' -> WO CX false ops l (st'.putO dst (.sv (.tup [.sl (es.getD p default).2.1 rs, .int .i64 0]))) Q) :
    WN CX ops l dst st Q 12 [.ptr d g 0, .sv (.str (bs t))] := by
  have hd' : 2000000 <= d := h.ob
  have hpl : plV (.ptr d g 0) = true := pl_ob h.ob
  refine wni Tryz.f12 ?_; unfold Tryz.f12; simp only [Option.get!_some]
  repeat (first | simp only [go_sem, hd'] | simp (disch := first | exact oa | fail) only [AX, Int.reduceToNat, Int.reducePow, Nat.reducePow, hd'] | refine wki ?_ | refine wqn ?_)
  refine sess_atS hp hl (h.of rfl (fun _ => rfl) (Nat.le_refl _)) ?_
  intro s1 hk
  have k0 : s1.tmp 0 = .ptr d g 0 := hk.tmp 0
  have hs1 : SessR s1 d g es D := h.of (by rw [hk.hob]; rfl) (fun _ => (hk.obj _ _).trans rfl) (by rw [hk.gen]; exact Nat.le_refl _)
  clear h
  obtain ⟨_, hrow⟩ := hs1
  have hpl : p < es.length := by
    unfold isAt at hat
    rw [Bool.and_eq_true] at hat
    exact of_decide_eq_true hat.1
  rcases hrow with ⟨rfl, _⟩ | ⟨g1, hg1, ho, hobj⟩
  · simp at hpl
  obtain ⟨rest, hx⟩ := ent_at hpl
  have hx1 : (entC es).drop (p * 2 + 1) = .sl (es.getD p default).2.1 (es.getD p default).2.2 :: rest := by
    rw [<- List.drop_drop, hx]
    rfl
  have hlen := entC_len es
  repeat (first | simp only [go_sem, hd', k0, hat, ho, hobj, Bool.not_true, hlen, hx1, List.head?_cons] | simp (disch := first | exact oa | fail) only [AX, Int.reduceToNat, Int.reducePow, Nat.reducePow, hd', k0, hat, ho, hobj, Bool.not_true, hlen, hx1, List.head?_cons] | refine wki ?_ | refine wqn ?_ | refine vf_of (by first | exact hc) ?_)
  exact k _ (same_leave (vs := [.ptr d g 0, .sv (.str (bs t))]) hk rfl rfl rfl rfl rfl rfl rfl rfl)
theorem sess_Get_at {rs : List SV} (hp : PosAt es t p) (hl : es.length <= 100000) (hat : isAt es t p = true) (hc : Go.Ev.Fn CX 33 [.sl (es.getD p default).2.1 (es.getD p default).2.2] (.sl (es.getD p default).2.1 rs)) (h : SessR st d g es D)
    (k : ∀ st', Keep d st st' -> SessR st' d g es D -> WO CX false ops l (st'.putO dst (.sv (.tup [.sl (es.getD p default).2.1 rs, .int .i64 0]))) Q) :
    WN CX ops l dst st Q 12 [.ptr d g 0, .sv (.str (bs t))] :=
  sess_Get_atS hp hl hat hc h fun s hs => k s hs.keep (h.of (by rw [hs.hob]) (fun _ => hs.obj _ _) (by rw [hs.gen]; exact Nat.le_refl _))
end
theorem known_parse22 : parseP [49, 32, 50] = (0, [1, 2]) := by kernel_rfl
theorem known_cells22 : rvsC [1, 2] = [.bool false, natV [1], natV [1], .bool false, natV [2], natV [1]] := by kernel_rfl
theorem law22_known : Go.Ev.Fn CX 15 [] (.bool true) := by
  have hN := sess_New
  have o := ref2_Int 2 (by omega)
  have e5 : (rv (((2 : Int)) : Rat) : SV) = ratV false [2] [1] := by kernel_rfl
  have r1 : RatA (ratV false [2] [1]) 2 1 := ⟨_, _, _, rfl, by simp [okL], by simp [okL], by decide, by decide, by decide⟩
  have sm := ref2_Same r1 r1 (by omega) (by omega) (by omega)
  rw [decide_eq_true rfl] at sm
  rw [e5] at o
  refine fni Tryz.f15 ?_; unfold Tryz.f15; simp only [Option.get!_some]
  repeat (first | simp only [go_sem] | simp (disch := first | exact oa | fail) only [AX, Int.reduceToNat, Int.reducePow, Nat.reducePow] | refine wki ?_ | refine wqn ?_ | refine vpd 6 [] ?_)
  refine vf_heap hN ?_
  repeat (first | simp only [go_sem] | simp (disch := first | exact oa | fail) only [AX, Int.reduceToNat, Int.reducePow, Nat.reducePow] | refine wki ?_ | refine wqn ?_ | refine vpd 6 [] ?_)
  refine sess_Let_end (t := [97]) (es := []) (x := [49, 32, 50]) (qs := [1, 2]) (D := 6) (by decide) (by kernel_rfl) ⟨Nat.le_refl 0, fun k h => absurd h (Nat.not_lt_zero k), fun k _ h => absurd h (Nat.not_lt_zero k)⟩ (by decide) (by decide) known_parse22 (by decide) ⟨by decide, .inl ⟨rfl, rfl⟩⟩ ?_
  intro s1 hk hs1
  have k1 : s1.tmp 1 = .ptr 2000005 1 0 := hk.tmp 1 rfl
  have k0 : s1.tmp 0 = .sv (.bool false) := hk.tmp 0 rfl
  clear hk
  repeat (first | simp only [go_sem, k1] | simp (disch := first | exact oa | fail) only [AX, Int.reduceToNat, Int.reducePow, Nat.reducePow, k1] | refine wki ?_ | refine wqn ?_ | refine vpd 6 [] ?_)
  have hz : ∀ q ∈ (parseP [49, 32, 50]).2, szR q 500 := parse_sz
  rw [known_parse22] at hz
  have hc := sess_copied (rvsC_row (L := 500) [1, 2] hz) (by omega) (by omega) (by decide)
  refine sess_Get_at (t := [97]) (es := [([97], 2, rvsC [1, 2])]) (p := 0) (rs := rvsC [1, 2]) (D := 6) ⟨by decide, fun k h => absurd h (Nat.not_lt_zero k), fun k _ h => ?_⟩ (by decide) (by kernel_rfl) hc (hs1.of rfl (fun _ => rfl) (Nat.le_refl _)) ?_
  · have : k = 0 := by simpa using h
    subst this
    decide
  intro s2 hk2 hs2
  have j1 : s2.tmp 1 = .ptr 2000005 1 0 := (hk2.tmp 1 (by simp only [tmp_put, k1, reduceIte, Nat.reduceEqDiff]; rfl)).trans (by simp only [tmp_put, k1, reduceIte, Nat.reduceEqDiff])
  have j2 : s2.tmp 2 = .sv (.int .i64 0) := hk2.tmp 2 rfl
  have ec : rvsC [1, 2] = [.bool false, natV [1], natV [1], .bool false, natV [2], natV [1]] := known_cells22
  have hob : ∃ te, s2.hob 2000005 1 = some [te, .sv (.int .i64 6)] := by
    rcases hs2.row with ⟨h, _⟩ | ⟨g1, _, h, _⟩
    · cases h
    · exact ⟨_, h⟩
  obtain ⟨te, hob⟩ := hob
  clear hk2 hs2
  repeat (first | simp only [go_sem, j1, j2, ec, hob, List.getD_cons_zero, List.drop_succ_cons, List.drop_zero, List.head?_cons] | simp (disch := first | exact oa | fail) only [AX, Int.reduceToNat, Int.reducePow, Nat.reducePow, j1, j2, ec, hob, List.getD_cons_zero, List.drop_succ_cons, List.drop_zero, List.head?_cons] | refine wki ?_ | refine wqn ?_ | refine vpd 6 [] ?_ | refine vf_of (by first | exact o | exact sm) ?_)
  refine wli Tryz.f30 (.int .i64 6) ?_ ?_
  · unfold Tryz.f30
    simp only [Option.get!_some]
    simp only [go_sem, hob]
  simp only [go_sem]
  rfl
end Go.Proofs.YticocojomlfhgaaGreatDoor
namespace Go.Proofs.YticocojomlfhgaaGreatDoor
open Go.Ev
section
variable {ops : Array Oper} {l : List Oper} {dst : Option Nat} {st : St} {Q : St -> Prop} {d g p : Nat} {es : List Ent} {t : List UInt8} {D : Int}
theorem sess_Set_full {m : Nat} {cs : List SV} (ht : t.length <= 1048576) (hn : nameP t = true) (hp : PosAt es t p) (hl : es.length <= 100000) (h16 : 16 <= es.length) (hat : isAt es t p = false) {tl : TV} (htl : tl = .sv (.sl m cs) \/ (tl = .nil /\ m = 0 /\ cs = [])) (h : SessR st d g es D)
    (k : ∀ st', Keep d st st' -> SessR st' d g es D -> WO CX false ops l (st'.putO dst (.sv (.int .i64 7))) Q) :
    WN CX ops l dst st Q 11 [.ptr d g 0, .sv (.str (bs t)), tl] := by
  have nm := sess_Name t ht
  rw [hn] at nm
  have hd' : 2000000 <= d := h.ob
  have hpt : plV tl = true := by rcases htl with rfl | ⟨rfl, _, _⟩ <;> rfl
  have hpl : plV (.ptr d g 0) = true := pl_ob h.ob
  refine wni Tryz.f11 ?_; unfold Tryz.f11; simp only [Option.get!_some]
  repeat (first | simp only [go_sem, hd', Bool.not_true] | simp (disch := first | exact oa | fail) only [AX, Int.reduceToNat, Int.reducePow, Nat.reducePow, hd', Bool.not_true] | refine wki ?_ | refine wqn ?_ | refine vpd 10 [2] ?_ | refine vf_of (by first | exact nm) ?_)
  refine sess_at hp hl (h.of rfl (fun _ => rfl) (Nat.le_refl _)) ?_
  intro s1 hk hs1
  have k0 : s1.tmp 0 = .ptr d g 0 := hk.tmp 0 hpl
  have k2 : s1.tmp 2 = tl := hk.tmp 2 hpt
  have hu := hk.kp
  clear hk h
  have hm : 256 < m \/ ¬ 256 < m := by omega
  rcases htl with rfl | ⟨rfl, rfl, rfl⟩
  all_goals
    have hs := hs1
    obtain ⟨_, hrow⟩ := hs1
    rcases hrow with ⟨rfl, ho⟩ | ⟨g1, hg1, ho, hobj⟩
    · simp at h16
    rcases hm with hm | hm
    · repeat (first | simp only [go_sem, hd', k0, k2, hat, ho, hobj, Bool.not_true, Bool.not_false] | simp (disch := first | exact oa | fail) only [AX, Int.reduceToNat, Int.reducePow, Nat.reducePow, hd', k0, k2, hat, ho, hobj, Bool.not_true, Bool.not_false] | refine wki ?_ | refine wqn ?_ | refine vpd 10 [2] ?_)
      exact k _ (keep_of (by repeat (first | exact Kp.refl | exact hu | refine Kp.trans ?_ hu | refine Kp.put ?_ | refine Kp.setH ?_ | refine Kp.newset ?_ | refine Kp.set rfl ?_ | refine Kp.set (by assumption) ?_ | refine Kp.new ?_ | refine Kp.grow rfl ?_ | refine Kp.frzd rfl ?_ | refine Kp.ins rfl ?_))) (hs.of rfl (fun _ => rfl) (Nat.le_refl _))
    · repeat (first | simp only [go_sem, hd', k0, k2, hat, ho, hobj, Bool.not_true, Bool.not_false] | simp (disch := first | exact oa | fail) only [AX, Int.reduceToNat, Int.reducePow, Nat.reducePow, hd', k0, k2, hat, ho, hobj, Bool.not_true, Bool.not_false] | refine wki ?_ | refine wqn ?_ | refine vpd 10 [2] ?_)
      exact k _ (keep_of (by repeat (first | exact Kp.refl | exact hu | refine Kp.trans ?_ hu | refine Kp.put ?_ | refine Kp.setH ?_ | refine Kp.newset ?_ | refine Kp.set rfl ?_ | refine Kp.set (by assumption) ?_ | refine Kp.new ?_ | refine Kp.grow rfl ?_ | refine Kp.frzd rfl ?_ | refine Kp.ins rfl ?_))) (hs.of rfl (fun _ => rfl) (Nat.le_refl _))
def namC (es : List Ent) : List SV := es.map fun e => .str (bs e.1)
theorem namC_snoc {es : List Ent} {i : Nat} (h : i < es.length) : namC (es.take i) ++ [.str (bs (es.getD i default).1)] = namC (es.take (i + 1)) := by
  unfold namC
  rw [List.take_add_one, List.map_append, List.getElem?_eq_getElem h]
  simp [List.getD_eq_getElem?_getD, List.getElem?_eq_getElem h]
theorem namC_len (es : List Ent) : (namC es).length = es.length := by unfold namC; rw [List.length_map]
theorem sess_Names (hl : es.length <= 100000) (h : SessR st d g es D)
    (k : ∀ st' tv, Keep d st st' -> SessR st' d g es D -> ((es = [] /\ tv = .nil) \/ ∃ g', 0 < es.length /\ tv = .ref 21 g' 1 0 es.length /\ st'.obj 21 g' = some (namC es)) -> WO CX false ops l (st'.putO dst tv) Q) :
    WN CX ops l dst st Q 16 [.ptr d g 0] := by
  have hd' : 2000000 <= d := h.ob
  have hs0 := h
  obtain ⟨hd, hrow⟩ := h
  rcases hrow with ⟨rfl, ho⟩ | ⟨g1, hg1, ho, hobj⟩
  · refine wni Tryz.f16 ?_; unfold Tryz.f16; simp only [Option.get!_some]
    repeat (first | simp only [go_sem, hd', ho] | simp (disch := first | exact oa | fail) only [AX, Int.reduceToNat, Int.reducePow, Nat.reducePow, hd', ho] | refine wki ?_ | refine wqn ?_)
    refine vp_loop_fam (fun n s => n = 0 /\ s.tmp 12 = .sv (.int .i64 0) /\ s.tmp 13 = .sv (.int .i64 0) /\ s.tmp 3 = .nil /\ Kp TP d (st.enter [.ptr d g 0]) s /\ s.hob = st.hob /\ s.obj = st.obj /\ s.gen = st.gen) 0 ⟨rfl, rfl, rfl, rfl, (by repeat (first | exact Kp.refl | refine Kp.put ?_ | refine Kp.setH ?_ | refine Kp.newset ?_ | refine Kp.set rfl ?_ | refine Kp.set (by assumption) ?_ | refine Kp.new ?_ | refine Kp.grow rfl ?_ | refine Kp.frzd rfl ?_ | refine Kp.ins rfl ?_)), rfl, rfl, rfl⟩ ?_
    rintro n s ⟨-, i12, i13, i3, hup, hhob, hob, hgen⟩
    repeat (first | simp only [go_sem, i12, i13, i3] | simp (disch := first | exact oa | fail) only [AX, Int.reduceToNat, Int.reducePow, Nat.reducePow, i12, i13, i3] | refine wki ?_ | refine wqn ?_)
    exact k _ _ (keep_of (by repeat (first | exact Kp.refl | exact hup | refine Kp.trans ?_ hup | refine Kp.put ?_ | refine Kp.setH ?_ | refine Kp.newset ?_ | refine Kp.set rfl ?_ | refine Kp.set (by assumption) ?_ | refine Kp.new ?_ | refine Kp.grow rfl ?_ | refine Kp.frzd rfl ?_ | refine Kp.ins rfl ?_))) (hs0.of (by simp only [hob_leave, hob_put]; rw [hhob]) (fun _ => by simp only [obj_leave, obj_put]; rw [hob]) (by simp only [gen_leave, gen_put]; rw [hgen]; exact Nat.le_refl _)) (.inl ⟨rfl, rfl⟩)
  · have hlen := entC_len es
    refine wni Tryz.f16 ?_; unfold Tryz.f16; simp only [Option.get!_some]
    repeat (first | simp only [go_sem, hd', ho] | simp (disch := first | exact oa | fail) only [AX, Int.reduceToNat, Int.reducePow, Nat.reducePow, hd', ho] | refine wki ?_ | refine wqn ?_)
    refine vp_loop_inv (fun s => s.tmp 11 = .ref 25 g1 2 0 es.length /\ s.tmp 12 = .sv (.int .i64 (es.length : Int)) /\ s.obj 25 g1 = some (entC es) /\ s.hob d g = some [.ref 25 g1 2 0 es.length, .sv (.int .i64 D)] /\ st.gen 25 <= s.gen 25 /\ Kp TP d (st.enter [.ptr d g 0]) s /\
        ∃ i : Nat, s.tmp 13 = .sv (.int .i64 (i : Int)) /\ i <= es.length /\ ((i = 0 /\ s.tmp 3 = .nil) \/ ∃ g3, 0 < i /\ s.tmp 3 = .ref 21 g3 1 0 i /\ s.obj 21 g3 = some (namC (es.take i))))
      (fun s => match s.tmp 13 with | .sv (.int _ i) => es.length - i.toNat | _ => 0) ?_ ?_
    · exact ⟨rfl, rfl, hobj, ho, Nat.le_refl _, (by repeat (first | exact Kp.refl | refine Kp.put ?_ | refine Kp.setH ?_ | refine Kp.newset ?_ | refine Kp.set rfl ?_ | refine Kp.set (by assumption) ?_ | refine Kp.new ?_ | refine Kp.grow rfl ?_ | refine Kp.frzd rfl ?_ | refine Kp.ins rfl ?_)), 0, rfl, by omega, .inl ⟨rfl, rfl⟩⟩
    rintro s ⟨i11, i12, iO, iH, iG, iU, i, i13, hi, hcase⟩
    by_cases hend : i = es.length
    · subst hend
      rcases hcase with ⟨h0, i3⟩ | ⟨g3, h0, i3, iN⟩
      · have e0 : es = [] := List.eq_nil_of_length_eq_zero h0
        repeat (first | simp only [go_sem, i11, i12, iO, i13, i3] | simp (disch := first | exact oa | fail) only [AX, Int.reduceToNat, Int.reducePow, Nat.reducePow, i11, i12, iO, i13, i3] | refine wki ?_ | refine wqn ?_)
        exact k _ _ (keep_of (by repeat (first | exact Kp.refl | exact iU | refine Kp.trans ?_ iU | refine Kp.put ?_ | refine Kp.setH ?_ | refine Kp.newset ?_ | refine Kp.set rfl ?_ | refine Kp.set (by assumption) ?_ | refine Kp.new ?_ | refine Kp.grow rfl ?_ | refine Kp.frzd rfl ?_ | refine Kp.ins rfl ?_))) ⟨hd', .inr ⟨g1, Nat.lt_of_lt_of_le hg1 iG, iH, iO⟩⟩ (.inl ⟨e0, rfl⟩)
      rw [List.take_length] at iN
      repeat (first | simp only [go_sem, i11, i12, iO, i13, i3] | simp (disch := first | exact oa | fail) only [AX, Int.reduceToNat, Int.reducePow, Nat.reducePow, i11, i12, iO, i13, i3] | refine wki ?_ | refine wqn ?_)
      exact k _ _ (keep_of (by repeat (first | exact Kp.refl | exact iU | refine Kp.trans ?_ iU | refine Kp.put ?_ | refine Kp.setH ?_ | refine Kp.newset ?_ | refine Kp.set rfl ?_ | refine Kp.set (by assumption) ?_ | refine Kp.new ?_ | refine Kp.grow rfl ?_ | refine Kp.frzd rfl ?_ | refine Kp.ins rfl ?_))) ⟨hd', .inr ⟨g1, Nat.lt_of_lt_of_le hg1 iG, iH, iO⟩⟩ (.inr ⟨g3, h0, rfl, iN⟩)
    · obtain ⟨rest, hat⟩ := ent_at (es := es) (k := i) (by omega)
      have hsn := namC_snoc (es := es) (i := i) (by omega)
      have hnl := namC_len (es.take i)
      rw [List.length_take, Nat.min_eq_left (by omega)] at hnl
      rcases hcase with ⟨h0, i3⟩ | ⟨g3, h0, i3, iN⟩
      · subst h0
        rw [Nat.zero_mul, List.drop_zero] at hat
        repeat (first | simp only [go_sem, i11, i12, iO, i13, i3, hlen, hat] | simp (disch := first | exact oa | fail) only [AX, Int.reduceToNat, Int.reducePow, Nat.reducePow, i11, i12, iO, i13, i3, hlen, hat] | refine wki ?_ | refine wqn ?_)
        exact ⟨⟨iH, iG, (by repeat (first | exact Kp.refl | exact iU | refine Kp.trans ?_ iU | refine Kp.put ?_ | refine Kp.setH ?_ | refine Kp.newset ?_ | refine Kp.set rfl ?_ | refine Kp.set (by assumption) ?_ | refine Kp.new ?_ | refine Kp.grow rfl ?_ | refine Kp.frzd rfl ?_ | refine Kp.ins rfl ?_)), 1, rfl, by omega, .inr ⟨s.gen 21, by omega, rfl, by rw [if_pos rfl, <- hsn]; rfl⟩⟩, by omega⟩
      · repeat (first | simp only [go_sem, i11, i12, iO, i13, i3, iN, hlen, hat, N0, hnl] | simp (disch := first | exact oa | fail) only [AX, Int.reduceToNat, Int.reducePow, Nat.reducePow, i11, i12, iO, i13, i3, iN, hlen, hat, N0, hnl] | refine wki ?_ | refine wqn ?_)
        refine ⟨⟨?_, iG, (by repeat (first | exact Kp.refl | exact iU | refine Kp.trans ?_ iU | refine Kp.put ?_ | refine Kp.setH ?_ | refine Kp.newset ?_ | refine Kp.set rfl ?_ | refine Kp.set (by assumption) ?_ | refine Kp.new ?_ | refine Kp.grow rfl ?_ | refine Kp.frzd rfl ?_ | refine Kp.ins rfl ?_)), i + 1, rfl, by omega, .inr ⟨g3, by omega, rfl, ?_⟩⟩, by omega⟩
        · rw [iH]
          rfl
        · rw [if_pos rfl, hsn]
end
end Go.Proofs.YticocojomlfhgaaGreatDoor
namespace Go.Proofs.YticocojomlfhgaaGreatDoor
open Go.Ev
section
variable {ops : Array Oper} {l : List Oper} {dst : Option Nat} {st : St} {Q : St -> Prop} {d g p : Nat} {es : List Ent} {t : List UInt8} {D : Int}
theorem sess_Drop_at (hp : PosAt es t p) (hl : es.length <= 100000) (hat : isAt es t p = true) (h : SessR st d g es D)
    (k : ∀ st', Keep d st st' -> SessR st' d g (es.take p ++ es.drop (p + 1)) D -> WO CX false ops l (st'.putO dst (.sv (.int .i64 0))) Q) :
    WN CX ops l dst st Q 19 [.ptr d g 0, .sv (.str (bs t))] := by
  have hd' : 2000000 <= d := h.ob
  have hpl : plV (.ptr d g 0) = true := pl_ob h.ob
  refine wni Tryz.f19 ?_; unfold Tryz.f19; simp only [Option.get!_some]
  repeat (first | simp only [go_sem, hd'] | simp (disch := first | exact oa | fail) only [AX, Int.reduceToNat, Int.reducePow, Nat.reducePow, hd'] | refine wki ?_ | refine wqn ?_)
  refine sess_at hp hl (h.of rfl (fun _ => rfl) (Nat.le_refl _)) ?_
  intro s1 hk hs1
  have k0 : s1.tmp 0 = .ptr d g 0 := hk.tmp 0 hpl
  have hu := hk.kp
  clear hk h
  have hlt : p < es.length := by
    unfold isAt at hat
    rw [Bool.and_eq_true] at hat
    exact of_decide_eq_true hat.1
  obtain ⟨_, hrow⟩ := hs1
  rcases hrow with ⟨rfl, _⟩ | ⟨g1, hg1, ho, hobj⟩
  · simp at hlt
  repeat (first | simp only [go_sem, hd', k0, hat, ho, hobj, Bool.not_true] | simp (disch := first | exact oa | fail) only [AX, Int.reduceToNat, Int.reducePow, Nat.reducePow, hd', k0, hat, ho, hobj, Bool.not_true] | refine wki ?_ | refine wqn ?_)
  refine sess_delete (d := d) hlt hl ?_ ?_
  · simp only [obj_put]
    exact hobj
  intro s2 hk2 hg2 hobj2 hhob2
  have j17 : s2.tmp 17 = .ptr d g 0 := (hk2.tmp 17 hpl).trans rfl
  have hob2 : s2.hob d g = some [.undef, .sv (.int .i64 D)] := by
    rw [hhob2]
    simp only [hob_put]
    rw [ho]
    simp only [Option.map_some, List.map_cons, List.map_nil, TV.kill, and_self, if_true]
  have hgen2 : g1 < s2.gen 25 := Nat.lt_of_lt_of_le hg1 (by simpa only [gen_put] using hg2)
  have hu2 := hk2.kp
  clear hk2 hhob2 k0
  repeat (first | simp only [go_sem, hd', j17, hob2, hobj2] | simp (disch := first | exact oa | fail) only [AX, Int.reduceToNat, Int.reducePow, Nat.reducePow, hd', j17, hob2, hobj2] | refine wki ?_ | refine wqn ?_)
  refine k _ (keep_of (by repeat (first | exact Kp.refl | exact hu2 | exact hu | refine Kp.trans ?_ hu2 | refine Kp.trans ?_ hu | refine Kp.put ?_ | refine Kp.setH ?_ | refine Kp.newset ?_ | refine Kp.set rfl ?_ | refine Kp.set (by assumption) ?_ | refine Kp.new ?_ | refine Kp.grow rfl ?_ | refine Kp.frzd rfl ?_ | refine Kp.ins rfl ?_))) ⟨hd', .inr ⟨g1, ?_, ?_, ?_⟩⟩
  · simp only [gen_leave, gen_put, gen_setH]
    exact hgen2
  · simp only [hob_leave, hob_put, hob_setH, and_self, if_true]
    rw [List.length_append, List.length_take, List.length_drop, Nat.min_eq_left (by omega), show p + (es.length - (p + 1)) = es.length - 1 by omega]
  · simp only [obj_leave, obj_put, obj_setH]
    exact hobj2
theorem sess_Drop_none (hp : PosAt es t p) (hl : es.length <= 100000) (hat : isAt es t p = false) (h : SessR st d g es D)
    (k : ∀ st', Keep d st st' -> SessR st' d g es D -> WO CX false ops l (st'.putO dst (.sv (.int .i64 6))) Q) :
    WN CX ops l dst st Q 19 [.ptr d g 0, .sv (.str (bs t))] := by
  have hd' : 2000000 <= d := h.ob
  have hpl : plV (.ptr d g 0) = true := pl_ob h.ob
  refine wni Tryz.f19 ?_; unfold Tryz.f19; simp only [Option.get!_some]
  repeat (first | simp only [go_sem, hd'] | simp (disch := first | exact oa | fail) only [AX, Int.reduceToNat, Int.reducePow, Nat.reducePow, hd'] | refine wki ?_ | refine wqn ?_)
  refine sess_at hp hl (h.of rfl (fun _ => rfl) (Nat.le_refl _)) ?_
  intro s1 hk hs1
  have k0 : s1.tmp 0 = .ptr d g 0 := hk.tmp 0 hpl
  have hu := hk.kp
  clear hk h
  repeat (first | simp only [go_sem, hd', k0, hat, Bool.not_false] | simp (disch := first | exact oa | fail) only [AX, Int.reduceToNat, Int.reducePow, Nat.reducePow, hd', k0, hat, Bool.not_false] | refine wki ?_ | refine wqn ?_)
  exact k _ (keep_of (by repeat (first | exact Kp.refl | exact hu | refine Kp.trans ?_ hu | refine Kp.put ?_ | refine Kp.setH ?_ | refine Kp.newset ?_ | refine Kp.set rfl ?_ | refine Kp.set (by assumption) ?_ | refine Kp.new ?_ | refine Kp.grow rfl ?_ | refine Kp.frzd rfl ?_ | refine Kp.ins rfl ?_))) (hs1.of rfl (fun _ => rfl) (Nat.le_refl _))
theorem sess_Get_noneS (hp : PosAt es t p) (hl : es.length <= 100000) (hat : isAt es t p = false) (h : SessR st d g es D)
    (k : ∀ st', Same st st' -> WO CX false ops l (st'.putO dst (.sv (.tup [.sl 0 [], .int .i64 6]))) Q) :
    WN CX ops l dst st Q 12 [.ptr d g 0, .sv (.str (bs t))] := by
  have hd' : 2000000 <= d := h.ob
  have hpl : plV (.ptr d g 0) = true := pl_ob h.ob
  refine wni Tryz.f12 ?_; unfold Tryz.f12; simp only [Option.get!_some]
  repeat (first | simp only [go_sem, hd'] | simp (disch := first | exact oa | fail) only [AX, Int.reduceToNat, Int.reducePow, Nat.reducePow, hd'] | refine wki ?_ | refine wqn ?_)
  refine sess_atS hp hl (h.of rfl (fun _ => rfl) (Nat.le_refl _)) ?_
  intro s1 hk
  have k0 : s1.tmp 0 = .ptr d g 0 := hk.tmp 0
  repeat (first | simp only [go_sem, hd', k0, hat, Bool.not_false] | simp (disch := first | exact oa | fail) only [AX, Int.reduceToNat, Int.reducePow, Nat.reducePow, hd', k0, hat, Bool.not_false] | refine wki ?_ | refine wqn ?_)
  exact k _ (same_leave (vs := [.ptr d g 0, .sv (.str (bs t))]) hk rfl rfl rfl rfl rfl rfl rfl rfl)
theorem sess_Set_name {tl : TV} (ht : t.length <= 1048576) (hn : nameP t = false) (h : SessR st d g es D)
    (k : ∀ st', Keep d st st' -> SessR st' d g es D -> WO CX false ops l (st'.putO dst (.sv (.int .i64 6))) Q) :
    WN CX ops l dst st Q 11 [.ptr d g 0, .sv (.str (bs t)), tl] := by
  have nm := sess_Name t ht
  rw [hn] at nm
  have hd' : 2000000 <= d := h.ob
  refine wni Tryz.f11 ?_; unfold Tryz.f11; simp only [Option.get!_some]
  repeat (first | simp only [go_sem, hd', Bool.not_false] | simp (disch := first | exact oa | fail) only [AX, Int.reduceToNat, Int.reducePow, Nat.reducePow, hd', Bool.not_false] | refine wki ?_ | refine wqn ?_ | refine vpd 10 [2] ?_ | refine vf_of (by first | exact nm) ?_)
  exact k _ (keep_of (by repeat (first | exact Kp.refl | refine Kp.put ?_ | refine Kp.setH ?_ | refine Kp.newset ?_ | refine Kp.set rfl ?_ | refine Kp.set (by assumption) ?_ | refine Kp.new ?_ | refine Kp.grow rfl ?_ | refine Kp.frzd rfl ?_ | refine Kp.ins rfl ?_))) (h.of rfl (fun _ => rfl) (Nat.le_refl _))
theorem sess_Let_name {x : List UInt8} (ht : t.length <= 1048576) (hn : nameP t = false) (h : SessR st d g es D)
    (k : ∀ st', Keep d st st' -> SessR st' d g es D -> WO CX false ops l (st'.putO dst (.sv (.int .i64 6))) Q) :
    WN CX ops l dst st Q 18 [.ptr d g 0, .sv (.str (bs t)), .sv (.str (bs x))] := by
  have nm := sess_Name t ht
  rw [hn] at nm
  have hd' : 2000000 <= d := h.ob
  refine wni Tryz.f18 ?_; unfold Tryz.f18; simp only [Option.get!_some]
  repeat (first | simp only [go_sem, hd', Bool.not_false] | simp (disch := first | exact oa | fail) only [AX, Int.reduceToNat, Int.reducePow, Nat.reducePow, hd', Bool.not_false] | refine wki ?_ | refine wqn ?_ | refine vf_of (by first | exact nm) ?_)
  exact k _ (keep_of (by repeat (first | exact Kp.refl | refine Kp.put ?_ | refine Kp.setH ?_ | refine Kp.newset ?_ | refine Kp.set rfl ?_ | refine Kp.set (by assumption) ?_ | refine Kp.new ?_ | refine Kp.grow rfl ?_ | refine Kp.frzd rfl ?_ | refine Kp.ins rfl ?_))) (h.of rfl (fun _ => rfl) (Nat.le_refl _))
theorem sess_Set_long {m : Nat} {cs : List SV} (ht : t.length <= 1048576) (hn : nameP t = true) (hp : PosAt es t p) (hl : es.length <= 100000) (hm : 256 < m) (h : SessR st d g es D)
    (k : ∀ st', Keep d st st' -> SessR st' d g es D -> WO CX false ops l (st'.putO dst (.sv (.int .i64 7))) Q) :
    WN CX ops l dst st Q 11 [.ptr d g 0, .sv (.str (bs t)), .sv (.sl m cs)] := by
  have nm := sess_Name t ht
  rw [hn] at nm
  have hd' : 2000000 <= d := h.ob
  have hpl : plV (.ptr d g 0) = true := pl_ob h.ob
  refine wni Tryz.f11 ?_; unfold Tryz.f11; simp only [Option.get!_some]
  repeat (first | simp only [go_sem, hd', Bool.not_true] | simp (disch := first | exact oa | fail) only [AX, Int.reduceToNat, Int.reducePow, Nat.reducePow, hd', Bool.not_true] | refine wki ?_ | refine wqn ?_ | refine vpd 10 [2] ?_ | refine vf_of (by first | exact nm) ?_)
  refine sess_at hp hl (h.of rfl (fun _ => rfl) (Nat.le_refl _)) ?_
  intro s1 hk hs1
  have k0 : s1.tmp 0 = .ptr d g 0 := hk.tmp 0 hpl
  have k2 : s1.tmp 2 = .sv (.sl m cs) := hk.tmp 2 rfl
  have hu := hk.kp
  clear hk h
  have hs := hs1
  obtain ⟨_, hrow⟩ := hs1
  generalize isAt es t p = b at *
  rcases hrow with ⟨rfl, ho⟩ | ⟨g1, hg1, ho, hobj⟩
  all_goals
    cases b
    all_goals
      repeat (first | simp only [go_sem, hd', k0, k2, ho, Bool.not_true, Bool.not_false] | simp (disch := first | exact oa | fail) only [AX, Int.reduceToNat, Int.reducePow, Nat.reducePow, hd', k0, k2, ho, Bool.not_true, Bool.not_false] | refine wki ?_ | refine wqn ?_ | refine vpd 10 [2] ?_)
      exact k _ (keep_of (by repeat (first | exact Kp.refl | exact hu | refine Kp.trans ?_ hu | refine Kp.put ?_ | refine Kp.setH ?_ | refine Kp.newset ?_ | refine Kp.set rfl ?_ | refine Kp.set (by assumption) ?_ | refine Kp.new ?_ | refine Kp.grow rfl ?_ | refine Kp.frzd rfl ?_ | refine Kp.ins rfl ?_))) (hs.of rfl (fun _ => rfl) (Nat.le_refl _))
end
end Go.Proofs.YticocojomlfhgaaGreatDoor
namespace Go.Proofs.YticocojomlfhgaaGreatDoor
open Go.Ev
structure ActI where
  k : Int
  t : List UInt8
  x : List UInt8
  ps : List InR
  n : Int
  deriving Inhabited
def ActI.cells (a : ActI) : List SV := [.int .i64 a.k, .str (bs a.t), .str (bs a.x), rowV a.ps, .int .i64 a.n]
def actsC (acs : List ActI) : List SV := acs.flatMap ActI.cells
theorem actsC_cons (a : ActI) (acs : List ActI) : actsC (a :: acs) = a.cells ++ actsC acs := by unfold actsC; simp
theorem actsC_len : ∀ acs : List ActI, (actsC acs).length = acs.length * 5
  | [] => rfl
  | a :: acs => by rw [actsC_cons, List.length_append, actsC_len acs, List.length_cons, show a.cells.length = 5 from rfl]; omega
theorem act_at : ∀ {acs : List ActI} {i : Nat}, i < acs.length -> ∃ rest, (actsC acs).drop (i * 5) = .int .i64 (acs.getD i default).k :: .str (bs (acs.getD i default).t) :: .str (bs (acs.getD i default).x) :: rowV (acs.getD i default).ps :: .int .i64 (acs.getD i default).n :: rest
  | a :: acs, 0, _ => ⟨actsC acs, by rw [Nat.zero_mul, List.drop_zero, actsC_cons]; rfl⟩
  | a :: acs, i + 1, h => by
    obtain ⟨rest, hr⟩ := act_at (acs := acs) (i := i) (by simpa using h)
    refine ⟨rest, ?_⟩
    rw [actsC_cons, show (i + 1) * 5 = 5 + i * 5 by omega, <- List.drop_drop, show List.drop 5 (a.cells ++ actsC acs) = actsC acs from rfl, hr]
    rfl
theorem u_acts : Tryz.prog.underlying 42 = some (.slice 45) := by kernel_rfl
theorem u_strg : Tryz.prog.underlying 9 = some .string := by kernel_rfl
theorem ts_act : fieldTs Tryz.prog 45 = [3, 9, 9, 22, 3] := by kernel_rfl
theorem shp_str {n : Nat} {ss : List SV} (h : ShpT Tryz.prog (n + 1) 9 ss) : ∃ t : List UInt8, ss = [.str (bs t)] := by
  unfold ShpT at h
  rw [u_strg] at h
  obtain ⟨s, rfl, _⟩ := h
  exact ⟨s.data.toList, by rw [bs_data]⟩
theorem shp_act {n : Nat} {ss : List SV} (h : ShpT Tryz.prog (n + 5) 45 ss) : ∃ a : ActI, ss = a.cells /\ a.ps.length <= maxLen /\ ∀ p ∈ a.ps, p.ok := by
  obtain ⟨parts, rfl, hl, hp⟩ := shp_struct ts_act (by simp) h
  obtain ⟨a, b, c, d, e, rfl⟩ := len_five hl
  obtain ⟨k, rfl, _⟩ := shp_int (hp 0 _ a rfl rfl)
  obtain ⟨t, rfl⟩ := shp_str (hp 1 _ b rfl rfl)
  obtain ⟨x, rfl⟩ := shp_str (hp 2 _ c rfl rfl)
  obtain ⟨ps, rfl, h1, h2⟩ := shp_rats (hp 3 _ d rfl rfl)
  obtain ⟨m, rfl, _⟩ := shp_int (hp 4 _ e rfl rfl)
  exact ⟨⟨k, t, x, ps, m⟩, rfl, h1, h2⟩
theorem shp_acts_all {n : Nat} : ∀ l : List (List SV), (∀ x ∈ l, ShpT Tryz.prog (n + 5) 45 x) -> ∃ acs : List ActI, l.flatten = actsC acs /\ l.length = acs.length /\ ∀ a ∈ acs, a.ps.length <= maxLen /\ ∀ p ∈ a.ps, p.ok := by
  intro l
  induction l with
  | nil => intro _; exact ⟨[], rfl, rfl, fun p hp => by cases hp⟩
  | cons x l ih =>
    intro hx
    obtain ⟨acs, h1, h2, h3⟩ := ih fun y hy => hx y (List.mem_cons_of_mem _ hy)
    obtain ⟨a, rfl, h4, h5⟩ := shp_act (hx x List.mem_cons_self)
    refine ⟨a :: acs, by rw [List.flatten_cons, h1, actsC_cons], by simp [h2], fun p hp => ?_⟩
    rcases List.mem_cons.1 hp with rfl | hp
    · exact ⟨h4, h5⟩
    · exact h3 p hp
theorem shp_acts {n : Nat} {ss : List SV} (h : ShpT Tryz.prog (n + 6) 42 ss) : ∃ acs : List ActI, ss = [.sl acs.length (actsC acs)] /\ acs.length <= maxLen /\ ∀ a ∈ acs, a.ps.length <= maxLen /\ ∀ p ∈ a.ps, p.ok := by
  unfold ShpT at h
  rw [u_acts] at h
  obtain ⟨elems, rfl, hl, he⟩ := h
  obtain ⟨acs, h1, h2, h3⟩ := shp_acts_all elems he
  exact ⟨acs, by rw [h1, h2], h2 ▸ hl, h3⟩
def noS : InR := (false, [], [])
theorem ratsC_atS : ∀ {ps : List InR} {k : Nat}, k < ps.length -> ∃ rest, (ratsC ps).drop (k * 3) = .bool (ps.getD k noS).1 :: natV (ps.getD k noS).2.1 :: natV (ps.getD k noS).2.2 :: rest
  | [], _, h => by simp at h
  | p :: ps, 0, _ => ⟨_, rfl⟩
  | p :: ps, k + 1, h => by
    obtain ⟨r, this⟩ := ratsC_atS (ps := ps) (k := k) (by simpa using h)
    refine ⟨r, ?_⟩
    rw [ratsC_cons]
    have e : ∀ j, (SV.bool p.1 :: natV p.2.1 :: natV p.2.2 :: ratsC ps).drop (j + 3) = (ratsC ps).drop j := fun _ => rfl
    rw [show (k + 1) * 3 = k * 3 + 3 by omega, e, this]
    rfl
def big3 (p : InR) : Bool := decide (3 < p.2.1.length) || decide (3 < p.2.2.length)
theorem any_takeS {α : Type} (f : α -> Bool) (l : List α) (d : α) {i : Nat} (h : i < l.length) : (l.take (i + 1)).any f = ((l.take i).any f || f (l.getD i d)) := by
  rw [List.take_add_one, List.any_append, List.getElem?_eq_getElem h, List.getD_eq_getElem?_getD, List.getElem?_eq_getElem h]
  simp
theorem any_of_getDS {α : Type} (f : α -> Bool) (l : List α) (d : α) {i : Nat} (h : i < l.length) (hf : f (l.getD i d) = true) : l.any f = true := by
  refine List.any_eq_true.2 ⟨l.getD i d, ?_, hf⟩
  rw [List.getD_eq_getElem?_getD, List.getElem?_eq_getElem h]
  exact List.getElem_mem h
theorem big3_row {ps : List InR} (h : ps.any big3 = false) (hok : ∀ p ∈ ps, p.ok) : RowC (ratsC ps) (ps.map InR.q) 3 := by
  refine ratsC_row ps fun p hp => ⟨hok p hp, ?_⟩
  have h2 := List.any_eq_false.1 h p hp
  unfold big3 at h2
  have h3 : (decide (3 < p.2.1.length) || decide (3 < p.2.2.length)) = false := by simpa using h2
  rw [Bool.or_eq_false_iff] at h3
  have h4 := of_decide_eq_false h3.1
  have h5 := of_decide_eq_false h3.2
  omega
theorem law22_big (ps : List InR) (hl : ps.length <= 1099511627776) : Go.Ev.Fn CX 9 [.sl ps.length (ratsC ps)] (.bool (ps.any big3)) := by
  have hlen := ratsC_len ps
  refine fni Tryz.f9 ?_; unfold Tryz.f9; simp only [Option.get!_some]
  repeat (first | simp only [go_sem] | simp (disch := first | exact oa | fail) only [AX, Int.reduceToNat, Int.reducePow, Nat.reducePow] | refine wki ?_ | refine wqn ?_)
  refine vp_loop_inv (fun s => s.tmp 0 = .sv (.sl ps.length (ratsC ps)) /\ ∃ k : Nat, s.tmp 3 = .sv (.int .i64 (k : Int)) /\ k <= ps.length /\ (ps.take k).any big3 = false)
    (fun s => match s.tmp 3 with | .sv (.int _ i) => ps.length - i.toNat | _ => 0) ⟨rfl, 0, rfl, by omega, rfl⟩ ?_
  rintro s ⟨i0, k, i3, hk, hb⟩
  by_cases hend : k = ps.length
  · subst hend
    rw [List.take_length] at hb
    rw [hb]
    repeat (first | simp only [go_sem, i0, i3] | simp (disch := first | exact oa | fail) only [AX, Int.reduceToNat, Int.reducePow, Nat.reducePow, i0, i3] | refine wki ?_ | refine wqn ?_)
  · obtain ⟨rest, g1⟩ := ratsC_atS (ps := ps) (k := k) (by omega)
    have gor := any_takeS big3 ps noS (i := k) (by omega)
    have gtr := any_of_getDS big3 ps noS (i := k) (by omega)
    rw [hb, Bool.false_or] at gor
    generalize hp : ps.getD k noS = p at *
    obtain ⟨s, n, d⟩ := p
    simp only at g1
    by_cases c1 : 3 < n.length
    · rw [gtr (by unfold big3; rw [decide_eq_true c1]; rfl)]
      clear gtr gor
      repeat (first | simp only [go_sem, i0, i3, g1, hlen, List.drop_succ_cons, List.drop_zero, List.head?_cons] | simp (disch := first | exact oa | fail) only [AX, Int.reduceToNat, Int.reducePow, Nat.reducePow, i0, i3, g1, hlen, List.drop_succ_cons, List.drop_zero, List.head?_cons] | refine wki ?_ | refine wqn ?_)
    · by_cases c2 : 3 < d.length
      · rw [gtr (by unfold big3; rw [decide_eq_true c2, Bool.or_true])]
        clear gtr gor
        repeat (first | simp only [go_sem, i0, i3, g1, hlen, List.drop_succ_cons, List.drop_zero, List.head?_cons] | simp (disch := first | exact oa | fail) only [AX, Int.reduceToNat, Int.reducePow, Nat.reducePow, i0, i3, g1, hlen, List.drop_succ_cons, List.drop_zero, List.head?_cons] | refine wki ?_ | refine wqn ?_)
      · have hbn : big3 (s, n, d) = false := by unfold big3; rw [decide_eq_false c1, decide_eq_false c2]; rfl
        rw [hbn] at gor
        clear gtr hbn
        repeat (first | simp only [go_sem, i0, i3, g1, hlen, List.drop_succ_cons, List.drop_zero, List.head?_cons] | simp (disch := first | exact oa | fail) only [AX, Int.reduceToNat, Int.reducePow, Nat.reducePow, i0, i3, g1, hlen, List.drop_succ_cons, List.drop_zero, List.head?_cons] | refine wki ?_ | refine wqn ?_)
        exact ⟨⟨k + 1, rfl, by omega, gor⟩, by omega⟩
def longA (a : ActI) : Bool := decide (60 < a.t.length) || (decide (300 < a.x.length) || (decide (300 < a.ps.length) || a.ps.any big3))
theorem law22_long (acs : List ActI) :
    Go.Ev.Fn CX 17 [.sl acs.length (actsC acs)] (.bool ((acs.take 60).any longA)) := by
  have hlen := actsC_len acs
  refine fni Tryz.f17 ?_; unfold Tryz.f17; simp only [Option.get!_some]
  repeat (first | simp only [go_sem] | simp (disch := first | exact oa | fail) only [AX, Int.reduceToNat, Int.reducePow, Nat.reducePow] | refine wki ?_ | refine wqn ?_)
  refine vp_loop_inv (fun s => s.tmp 0 = .sv (.sl acs.length (actsC acs)) /\ ∃ k : Nat, s.tmp 3 = .sv (.int .i64 (k : Int)) /\ k <= acs.length /\ k <= 60 /\ (acs.take k).any longA = false)
    (fun s => match s.tmp 3 with | .sv (.int _ i) => acs.length - i.toNat | _ => 0) ⟨rfl, 0, rfl, by omega, by omega, rfl⟩ ?_
  rintro s ⟨i0, k, i3, hk, hk60, hb⟩
  by_cases hend : k = acs.length
  · subst hend
    rw [List.take_of_length_le (by omega), <- List.take_length (l := acs), hb]
    repeat (first | simp only [go_sem, i0, i3] | simp (disch := first | exact oa | fail) only [AX, Int.reduceToNat, Int.reducePow, Nat.reducePow, i0, i3] | refine wki ?_ | refine wqn ?_)
  by_cases h60 : k = 60
  · subst h60
    rw [hb]
    repeat (first | simp only [go_sem, i0, i3] | simp (disch := first | exact oa | fail) only [AX, Int.reduceToNat, Int.reducePow, Nat.reducePow, i0, i3] | refine wki ?_ | refine wqn ?_)
  · obtain ⟨rest, g1⟩ := act_at (acs := acs) (i := k) (by omega)
    have gor := any_takeS longA acs default (i := k) (by omega)
    have gtr : longA (acs.getD k default) = true -> (acs.take 60).any longA = true := fun h => by
      refine any_of_getDS longA (acs.take 60) default (i := k) (by rw [List.length_take]; omega) ?_
      rw [List.getD_eq_getElem?_getD, List.getElem?_take_of_lt (by omega), <- List.getD_eq_getElem?_getD]
      exact h
    rw [hb, Bool.false_or] at gor
    have hmem : acs.getD k default ∈ acs := by
      rw [List.getD_eq_getElem?_getD, List.getElem?_eq_getElem (by omega)]
      exact List.getElem_mem _
    generalize acs.getD k default = a at *
    by_cases c1 : 60 < a.t.length
    · rw [gtr (by unfold longA; rw [decide_eq_true c1]; rfl)]
      clear gtr gor
      repeat (first | simp only [go_sem, i0, i3, g1, hlen, bs_size, List.drop_succ_cons, List.drop_zero, List.head?_cons] | simp (disch := first | exact oa | fail) only [AX, Int.reduceToNat, Int.reducePow, Nat.reducePow, i0, i3, g1, hlen, bs_size, List.drop_succ_cons, List.drop_zero, List.head?_cons] | refine wki ?_ | refine wqn ?_)
    · by_cases c2 : 300 < a.x.length
      · rw [gtr (by unfold longA; rw [decide_eq_true c2, Bool.true_or, Bool.or_true])]
        clear gtr gor
        repeat (first | simp only [go_sem, i0, i3, g1, hlen, bs_size, List.drop_succ_cons, List.drop_zero, List.head?_cons] | simp (disch := first | exact oa | fail) only [AX, Int.reduceToNat, Int.reducePow, Nat.reducePow, i0, i3, g1, hlen, bs_size, List.drop_succ_cons, List.drop_zero, List.head?_cons] | refine wki ?_ | refine wqn ?_)
      · by_cases c3 : 300 < a.ps.length
        · rw [gtr (by unfold longA; rw [decide_eq_true c3, Bool.true_or, Bool.or_true, Bool.or_true])]
          clear gtr gor
          repeat (first | simp only [go_sem, i0, i3, g1, hlen, bs_size, List.drop_succ_cons, List.drop_zero, List.head?_cons] | simp (disch := first | exact oa | fail) only [AX, Int.reduceToNat, Int.reducePow, Nat.reducePow, i0, i3, g1, hlen, bs_size, List.drop_succ_cons, List.drop_zero, List.head?_cons] | refine wki ?_ | refine wqn ?_)
        · have hbig := law22_big a.ps (by omega)
          cases hb2 : a.ps.any big3 with
          | true =>
            rw [gtr (by unfold longA; rw [hb2, Bool.or_true, Bool.or_true, Bool.or_true])]
            rw [hb2] at hbig
            clear gtr gor
            repeat (first | simp only [go_sem, i0, i3, g1, hlen, bs_size, List.drop_succ_cons, List.drop_zero, List.head?_cons] | simp (disch := first | exact oa | fail) only [AX, Int.reduceToNat, Int.reducePow, Nat.reducePow, i0, i3, g1, hlen, bs_size, List.drop_succ_cons, List.drop_zero, List.head?_cons] | refine wki ?_ | refine wqn ?_ | refine vf_of (by first | exact hbig) ?_)
          | false =>
            have hbn : longA a = false := by unfold longA; rw [decide_eq_false c1, decide_eq_false c2, decide_eq_false c3, hb2]; rfl
            rw [hbn] at gor
            rw [hb2] at hbig
            clear gtr hbn
            repeat (first | simp only [go_sem, i0, i3, g1, hlen, bs_size, List.drop_succ_cons, List.drop_zero, List.head?_cons] | simp (disch := first | exact oa | fail) only [AX, Int.reduceToNat, Int.reducePow, Nat.reducePow, i0, i3, g1, hlen, bs_size, List.drop_succ_cons, List.drop_zero, List.head?_cons] | refine wki ?_ | refine wqn ?_ | refine vf_of (by first | exact hbig) ?_)
            exact ⟨⟨k + 1, rfl, by omega, by omega, gor⟩, by omega⟩
end Go.Proofs.YticocojomlfhgaaGreatDoor
namespace Go.Proofs.YticocojomlfhgaaGreatDoor
open Go.Ev
theorem cb_self : ∀ a : List UInt8, Lib.compareBytes a a = 0
  | [] => rfl
  | x :: a => by
    unfold Lib.compareBytes
    rw [if_neg (by simp), if_neg (by simp), cb_self a]
theorem cb_swap : ∀ a b : List UInt8, Lib.compareBytes b a = - Lib.compareBytes a b
  | [], [] => rfl
  | [], _ :: _ => rfl
  | _ :: _, [] => rfl
  | x :: a, y :: b => by
    unfold Lib.compareBytes
    by_cases h1 : x < y
    · rw [if_neg (by rw [UInt8.lt_iff_toNat_lt] at *; omega), if_pos h1, if_pos h1]; rfl
    · by_cases h2 : y < x
      · rw [if_pos h2, if_neg h1, if_pos h2]
      · rw [if_neg h2, if_neg h1, if_neg h1, if_neg h2, cb_swap a b]
theorem cb_trans : ∀ {a b c : List UInt8}, Lib.compareBytes a b < 0 -> Lib.compareBytes b c < 0 -> Lib.compareBytes a c < 0
  | [], [], _, h, _ => by simp [Lib.compareBytes] at h
  | [], _ :: _, [], _, h => by simp [Lib.compareBytes] at h
  | [], _ :: _, _ :: _, _, _ => by simp [Lib.compareBytes]
  | _ :: _, [], _, h, _ => by simp [Lib.compareBytes] at h
  | _ :: _, _ :: _, [], _, h => by simp [Lib.compareBytes] at h
  | x :: a, y :: b, z :: c, h, k => by
    unfold Lib.compareBytes at h k ⊢
    by_cases h1 : x < y
    · by_cases k1 : y < z
      · rw [if_pos (by rw [UInt8.lt_iff_toNat_lt] at *; omega)]; decide
      · rw [if_neg k1] at k
        by_cases k2 : z < y
        · rw [if_pos k2] at k; simp at k
        · have : y = z := by
            apply UInt8.toNat.inj
            rw [UInt8.lt_iff_toNat_lt] at *; omega
          subst this
          rw [if_pos h1]; decide
    · rw [if_neg h1] at h
      by_cases h2 : y < x
      · rw [if_pos h2] at h; simp at h
      · rw [if_neg h2] at h
        have : x = y := by
          apply UInt8.toNat.inj
          rw [UInt8.lt_iff_toNat_lt] at *; omega
        subst this
        by_cases k1 : x < z
        · rw [if_pos k1]; decide
        · rw [if_neg k1] at k ⊢
          by_cases k2 : z < x
          · rw [if_pos k2] at k; simp at k
          · rw [if_neg k2] at k ⊢
            exact cb_trans h k
theorem cb_less : ∀ a b : List UInt8, Op.bytesLess a b = decide (Lib.compareBytes a b < 0)
  | [], [] => rfl
  | [], _ :: _ => rfl
  | _ :: _, [] => rfl
  | x :: a, y :: b => by
    unfold Op.bytesLess Lib.compareBytes
    have ih := cb_less a b
    by_cases h1 : x < y
    · rw [if_pos h1, decide_eq_true h1]; rfl
    · rw [if_neg h1, decide_eq_false h1, Bool.false_or]
      by_cases h2 : y < x
      · rw [if_pos h2]
        have : (x == y) = false := by
          rw [beq_eq_false_iff_ne]
          intro e; subst e
          rw [UInt8.lt_iff_toNat_lt] at h2; omega
        rw [this]; rfl
      · rw [if_neg h2]
        have : x = y := by
          apply UInt8.toNat.inj
          rw [UInt8.lt_iff_toNat_lt] at *; omega
        subst this
        rw [beq_self_eq_true, Bool.true_and, ih]
theorem cmp_zero0 : ∀ {a b : List UInt8}, Lib.compareBytes a b = 0 -> a = b
  | [], [], _ => rfl
  | [], _ :: _, h => by simp [Lib.compareBytes] at h
  | _ :: _, [], h => by simp [Lib.compareBytes] at h
  | x :: a, y :: b, h => by
    unfold Lib.compareBytes at h
    split at h
    · cases h
    · rename_i h1
      split at h
      · cases h
      · rename_i h2
        have e : x = y := UInt8.le_antisymm (UInt8.not_lt.1 h2) (UInt8.not_lt.1 h1)
        rw [e, cmp_zero0 h]
def Srt (es : List Ent) : Prop := es.Pairwise fun a b => Lib.compareBytes a.1 b.1 < 0
theorem pos_ex : ∀ {es : List Ent}, Srt es -> ∀ t : List UInt8, ∃ p, PosAt es t p
  | [], _, t => ⟨0, by simp, fun k h => absurd h (Nat.not_lt_zero k), fun k _ h => absurd h (Nat.not_lt_zero k)⟩
  | e :: es, h, t => by
    unfold Srt at h
    rw [List.pairwise_cons] at h
    by_cases hc : Lib.compareBytes e.1 t < 0
    · obtain ⟨p, h1, h2, h3⟩ := pos_ex h.2 t
      refine ⟨p + 1, by simpa using h1, fun k hk => ?_, fun k hk hk2 => ?_⟩
      · cases k with
        | zero => exact hc
        | succ k => exact h2 k (by omega)
      · cases k with
        | zero => omega
        | succ k => exact h3 k (by omega) (by simpa using hk2)
    · refine ⟨0, by simp, fun k hk => absurd hk (Nat.not_lt_zero k), fun k _ hk2 hlt => ?_⟩
      cases k with
      | zero => exact hc hlt
      | succ k =>
        have hk3 : k < es.length := by simpa using hk2
        have hm : es.getD k default ∈ es := by
          rw [List.getD_eq_getElem?_getD, List.getElem?_eq_getElem hk3]
          exact List.getElem_mem hk3
        exact hc (cb_trans (h.1 _ hm) hlt)
theorem srt_drop {es : List Ent} (h : Srt es) (p : Nat) : Srt (es.take p ++ es.drop (p + 1)) := by
  rw [<- List.eraseIdx_eq_take_drop_succ]
  exact List.Pairwise.sublist (List.eraseIdx_sublist es p) h
theorem take_mem {es : List Ent} {p : Nat} {x : Ent} (h : x ∈ es.take p) : ∃ k, k < p /\ k < es.length /\ es.getD k default = x := by
  obtain ⟨k, hk, e⟩ := List.mem_iff_getElem.1 h
  have hk' : k < p /\ k < es.length := by rw [List.length_take] at hk; omega
  refine ⟨k, hk'.1, hk'.2, ?_⟩
  rw [List.getD_eq_getElem?_getD, List.getElem?_eq_getElem hk'.2]
  rw [List.getElem_take] at e
  exact e
theorem drop_mem {es : List Ent} {p : Nat} {x : Ent} (h : x ∈ es.drop p) : ∃ k, p <= k /\ k < es.length /\ es.getD k default = x := by
  obtain ⟨k, hk, e⟩ := List.mem_iff_getElem.1 h
  have hk' : p + k < es.length := by rw [List.length_drop] at hk; omega
  refine ⟨p + k, by omega, hk', ?_⟩
  rw [List.getD_eq_getElem?_getD, List.getElem?_eq_getElem hk']
  rw [List.getElem_drop] at e
  exact e
theorem srt_ins {es : List Ent} {t : List UInt8} {p m : Nat} {cs : List SV} (h : Srt es) (hp : PosAt es t p) (hat : isAt es t p = false) : Srt (insE es p (t, m, cs)) := by
  have hgt : ∀ x ∈ es.drop p, Lib.compareBytes t x.1 < 0 := by
    intro x hx
    obtain ⟨k, h1, h2, rfl⟩ := drop_mem hx
    have hk := hp.hi k h1 h2
    unfold cmpAt at hk
    rw [cb_swap]
    have hne : Lib.compareBytes (es.getD k default).1 t ≠ 0 := by
      intro e0
      by_cases hkp : k = p
      · subst hkp
        unfold isAt cmpAt at hat
        rw [decide_eq_true h2, Bool.true_and, e0] at hat
        cases hat
      · have hlt : Lib.compareBytes (es.getD p default).1 (es.getD k default).1 < 0 := by
          have := List.pairwise_iff_getElem.1 h p k (by omega) h2 (by omega)
          rw [List.getD_eq_getElem?_getD, List.getElem?_eq_getElem (show p < es.length by omega), List.getD_eq_getElem?_getD, List.getElem?_eq_getElem h2]
          exact this
        have hp' := hp.hi p (Nat.le_refl _) (by omega)
        unfold cmpAt at hp'
        rw [cmp_zero0 e0] at hlt
        exact hp' hlt
    omega
  unfold Srt insE
  rw [List.pairwise_append, List.pairwise_cons]
  refine ⟨List.Pairwise.sublist (List.take_sublist p es) h, ⟨hgt, List.Pairwise.sublist (List.drop_sublist p es) h⟩, fun a ha b hb => ?_⟩
  obtain ⟨k, h1, h2, rfl⟩ := take_mem ha
  have hk := hp.lo k h1
  unfold cmpAt at hk
  rcases List.mem_cons.1 hb with rfl | hb
  · exact hk
  · exact cb_trans hk (hgt b hb)
theorem srt_set {es : List Ent} {t : List UInt8} {p m : Nat} {cs : List SV} (h : Srt es) (hn : (es.getD p default).1 = t) (hp : p < es.length) : Srt (es.set p (t, m, cs)) := by
  have e : (es.set p (t, m, cs)).map (·.1) = es.map (·.1) := by
    rw [List.map_set]
    refine List.ext_getElem? fun k => ?_
    rw [List.getElem?_set]
    split
    · rename_i e
      subst e
      rw [if_pos (by simpa using hp), List.getElem?_map, List.getElem?_eq_getElem hp]
      rw [List.getD_eq_getElem?_getD, List.getElem?_eq_getElem hp] at hn
      simpa using hn.symm
    · rfl
  unfold Srt at h ⊢
  have h1 := (List.pairwise_map (f := fun e : Ent => e.1) (R := fun a b => Lib.compareBytes a b < 0)).2 h
  rw [<- e] at h1
  exact (List.pairwise_map (f := fun e : Ent => e.1) (R := fun a b => Lib.compareBytes a b < 0)).1 h1
end Go.Proofs.YticocojomlfhgaaGreatDoor
namespace Go.Proofs.YticocojomlfhgaaGreatDoor
open Go.Ev
section
variable {ops : Array Oper} {l : List Oper} {dst : Option Nat} {st : St} {Q : St -> Prop} {d g p : Nat} {es : List Ent} {t : List UInt8} {D : Int}
end
end Go.Proofs.YticocojomlfhgaaGreatDoor
namespace Go.Proofs.YticocojomlfhgaaGreatDoor
open Go.Ev
end Go.Proofs.YticocojomlfhgaaGreatDoor
namespace Go.Proofs.YticocojomlfhgaaGreatDoor
open Go.Ev
theorem long_ex {acs : List ActI} {i : Nat} (h : (acs.take 60).any longA = false) (hi : i < acs.length) (h60 : i < 60) : longA (acs.getD i default) = false := by
  have h2 := List.any_eq_false.1 h (acs.getD i default) (by
    rw [List.mem_iff_getElem]
    refine ⟨i, by rw [List.length_take]; omega, ?_⟩
    rw [List.getElem_take, List.getD_eq_getElem?_getD, List.getElem?_eq_getElem hi]
    rfl)
  cases e : longA (acs.getD i default) with
  | false => rfl
  | true => exact absurd e h2
theorem longA_parts {a : ActI} (h : longA a = false) : a.t.length <= 60 /\ a.x.length <= 300 /\ a.ps.length <= 300 /\ a.ps.any big3 = false := by
  unfold longA at h
  rw [Bool.or_eq_false_iff, Bool.or_eq_false_iff, Bool.or_eq_false_iff] at h
  have h1 := of_decide_eq_false h.1
  have h2 := of_decide_eq_false h.2.1
  have h3 := of_decide_eq_false h.2.2.1
  exact ⟨by omega, by omega, by omega, h.2.2.2⟩
theorem nam_at : ∀ {es : List Ent} {k : Nat}, k < es.length -> (namC es).drop k = .str (bs (es.getD k default).1) :: (namC es).drop (k + 1)
  | e :: es, 0, _ => rfl
  | e :: es, k + 1, h => by
    have := nam_at (es := es) (k := k) (by simpa using h)
    exact this
def NR (v : TV) : Prop := v = .undef \/ ∃ x, v = .sv x
end Go.Proofs.YticocojomlfhgaaGreatDoor
namespace Go.Proofs.YticocojomlfhgaaGreatDoor
open Go.Ev
theorem cb_eq (a b : List UInt8) : (a == b) = (Lib.compareBytes a b == 0) := by
  by_cases h : a = b
  · subst h
    rw [cb_self, beq_self_eq_true]
    rfl
  · rw [beq_eq_false_iff_ne.2 h, beq_eq_false_iff_ne.2 fun e => h (cmp_zero0 e)]
def TD (n : Nat) : Bool := Nat.beq n 16 || (Nat.beq n 35 || (Nat.beq n 50 || (Nat.beq n 59 || Nat.beq n 70)))
def rowL (es : List Ent) : List SV := es.map fun e => .sl e.2.1 e.2.2
theorem rowL_len (es : List Ent) : (rowL es).length = es.length := by unfold rowL; rw [List.length_map]
theorem rowL_at : ∀ {es : List Ent} {k : Nat}, k < es.length -> (rowL es).drop k = .sl (es.getD k default).2.1 (es.getD k default).2.2 :: (rowL es).drop (k + 1)
  | e :: es, 0, _ => rfl
  | e :: es, k + 1, h => rowL_at (es := es) (k := k) (by simpa using h)
structure SessD (st : St) (d g : Nat) (es : List Ent) (D : Int) : Prop where
  ob : H0 <= d
  row : (es = [] /\ st.hob d g = some [.nil, .nil, .sv (.int .i64 D)]) \/ ∃ dn gn dl gl, (dn = 16 \/ dn = 59) /\ (dl = 35 \/ dl = 70) /\ gn < st.gen dn /\ gl < st.gen dl /\
    st.hob d g = some [.ref dn gn 1 0 es.length, .ref dl gl 1 0 es.length, .sv (.int .i64 D)] /\ st.obj dn gn = some (namC es) /\ st.obj dl gl = some (rowL es)
theorem SessD.same {st s : St} {d g : Nat} {es : List Ent} {D : Int} (h : SessD st d g es D) (h1 : s.hob = st.hob) (h2 : s.obj = st.obj) (h3 : s.gen = st.gen) : SessD s d g es D := by
  obtain ⟨a, b⟩ := h
  refine ⟨a, ?_⟩
  rw [h1, h2, h3]
  exact b
theorem SessD.keep {st s : St} {d d' g : Nat} {es : List Ent} {D : Int} (h : SessD st d g es D) (k : Kp TP d' st s) (hd : d ≠ d') : SessD s d g es D := by
  obtain ⟨ho, hrow⟩ := h
  refine ⟨ho, ?_⟩
  rcases hrow with ⟨e, h1⟩ | ⟨dn, gn, dl, gl, en, el, gn1, gl1, h1, h2, h3⟩
  · refine .inl ⟨e, k.hob d g _ hd h1 fun t ht => ?_⟩
    simp only [List.mem_cons, List.not_mem_nil, or_false] at ht
    rcases ht with rfl | rfl | rfl <;> rfl
  · refine .inr ⟨dn, gn, dl, gl, en, el, Nat.lt_of_lt_of_le gn1 (k.gen _), Nat.lt_of_lt_of_le gl1 (k.gen _), k.hob d g _ hd h1 fun t ht => ?_, (k.obj dn gn ?_ gn1).trans h2, (k.obj dl gl ?_ gl1).trans h3⟩
    · simp only [List.mem_cons, List.not_mem_nil, or_false] at ht
      rcases ht with rfl | rfl | rfl
      · rcases en with rfl | rfl <;> rfl
      · rcases el with rfl | rfl <;> rfl
      · rfl
    · rcases en with rfl | rfl <;> rfl
    · rcases el with rfl | rfl <;> rfl
theorem SessR.keep {st s : St} {d d' g : Nat} {es : List Ent} {D : Int} (h : SessR st d g es D) (k : Kp TD d' st s) (hd : d ≠ d') : SessR s d g es D := by
  obtain ⟨ho, hrow⟩ := h
  refine ⟨ho, ?_⟩
  rcases hrow with ⟨e, h1⟩ | ⟨g1, hg1, h1, h2⟩
  · refine .inl ⟨e, k.hob d g _ hd h1 fun t ht => ?_⟩
    simp only [List.mem_cons, List.not_mem_nil, or_false] at ht
    rcases ht with rfl | rfl <;> rfl
  · refine .inr ⟨g1, Nat.lt_of_lt_of_le hg1 (k.gen _), k.hob d g _ hd h1 fun t ht => ?_, (k.obj 25 g1 rfl hg1).trans h2⟩
    simp only [List.mem_cons, List.not_mem_nil, or_false] at ht
    rcases ht with rfl | rfl <;> rfl
section
variable {ops : Array Oper} {l : List Oper} {dst : Option Nat} {st : St} {Q : St -> Prop} {d g p : Nat} {es : List Ent} {t : List UInt8} {D : Int}
theorem same_of {st s : St} {vs : List TV} (h1 : s.up = (st.enter vs).up) (h2 : s.obj = st.obj) (h3 : s.gen = st.gen) (h4 : s.hob = st.hob) : Same st s.leave :=
  ⟨fun t => by rw [tmp_leave, h1, up_even], fun t => by rw [up_leave, h1, up_odd], fun d g => by rw [obj_leave, h2], by rw [gen_leave, h3], by rw [hob_leave, h4]⟩
theorem doc_at (hp : PosAt es t p) (hl : es.length <= 100000) (h : SessD st d g es D)
    (k : ∀ st', Same st st' -> WO CX false ops l (st'.putO dst (.sv (.tup [.int .i64 p, .bool (isAt es t p)]))) Q) :
    WN CX ops l dst st Q 43 [.ptr d g 0, .sv (.str (bs t))] := by
  obtain ⟨hd, hrow⟩ := h
  have hd' : 2000000 <= d := hd
  rcases hrow with ⟨rfl, ho⟩ | ⟨dn, gn, dl, gl, en, el, gn1, gl1, ho, hN, hL⟩
  · have : p = 0 := by have := hp.le; simpa using this
    subst this
    refine wni Tryz.f43 ?_; unfold Tryz.f43; simp only [Option.get!_some]
    repeat (first | simp only [go_sem, hd', ho] | simp (disch := first | exact oa | fail) only [AX, Int.reduceToNat, Int.reducePow, Nat.reducePow, hd', ho] | refine wki ?_ | refine wqn ?_ | refine vpd 4 [] ?_)
    refine vp_loop_fam (fun n s => n = 0 /\ s.tmp 0 = .ptr d g 0 /\ s.tmp 1 = .sv (.str (bs t)) /\ s.tmp 6 = .sv (.int .i64 0) /\ s.up = (st.enter [.ptr d g 0, .sv (.str (bs t))]).up /\ s.hob = st.hob /\ s.obj = st.obj /\ s.gen = st.gen) 0 ⟨rfl, rfl, rfl, rfl, rfl, rfl, rfl, rfl⟩ ?_
    rintro n s ⟨-, i0, i1, i6, hup, hhob, hob, hgen⟩
    have ho' : s.hob d g = some [.nil, .nil, .sv (.int .i64 D)] := by rw [hhob]; exact ho
    repeat (first | simp only [go_sem, i0, i1, i6, hd', ho'] | simp (disch := first | exact oa | fail) only [AX, Int.reduceToNat, Int.reducePow, Nat.reducePow, i0, i1, i6, hd', ho'] | refine wki ?_ | refine wqn ?_ | refine vpd 4 [] ?_)
    exact k _ (same_of (vs := [.ptr d g 0, .sv (.str (bs t))]) hup hob hgen hhob)
  · have hnl := namC_len es
    refine wni Tryz.f43 ?_; unfold Tryz.f43; simp only [Option.get!_some]
    repeat (first | simp only [go_sem, hd', ho] | simp (disch := first | exact oa | fail) only [AX, Int.reduceToNat, Int.reducePow, Nat.reducePow, hd', ho] | refine wki ?_ | refine wqn ?_ | refine vpd 4 [] ?_)
    refine vp_loop_inv (fun s => s.tmp 0 = .ptr d g 0 /\ s.tmp 1 = .sv (.str (bs t)) /\ s.up = (st.enter [.ptr d g 0, .sv (.str (bs t))]).up /\ s.hob = st.hob /\ s.obj = st.obj /\ s.gen = st.gen /\ ∃ k : Nat, s.tmp 6 = .sv (.int .i64 (k : Int)) /\ k <= p)
      (fun s => match s.tmp 6 with | .sv (.int _ i) => p - i.toNat | _ => 0) ⟨rfl, rfl, rfl, rfl, rfl, rfl, 0, rfl, by omega⟩ ?_
    rintro s ⟨i0, i1, hup, hhob, hob, hgen, j, i6, hj⟩
    have ho' : s.hob d g = some [.ref dn gn 1 0 es.length, .ref dl gl 1 0 es.length, .sv (.int .i64 D)] := by rw [hhob]; exact ho
    have hN' : s.obj dn gn = some (namC es) := by rw [hob]; exact hN
    have hple := hp.le
    by_cases hjp : j = p
    · subst hjp
      by_cases hlt : j < es.length
      · have x1 := nam_at (es := es) (k := j) hlt
        have hls := cb_less (es.getD j default).1 t
        have h0 : ¬ Lib.compareBytes (es.getD j default).1 t < 0 := hp.hi j (Nat.le_refl _) hlt
        rw [decide_eq_false h0] at hls
        have he := cb_eq (es.getD j default).1 t
        have hat : isAt es t j = (Lib.compareBytes (es.getD j default).1 t == 0) := by
          unfold isAt cmpAt
          rw [decide_eq_true hlt, Bool.true_and]
        rw [<- he] at hat
        rw [hat] at k
        generalize (es.getD j default).1 = ta at *
        repeat (first | simp only [go_sem, i0, i1, i6, hd', ho', hN', hnl, x1, List.head?_cons, bs_list, hls] | simp (disch := first | exact oa | fail) only [AX, Int.reduceToNat, Int.reducePow, Nat.reducePow, i0, i1, i6, hd', ho', hN', hnl, x1, List.head?_cons, bs_list, hls] | refine wki ?_ | refine wqn ?_ | refine vpd 4 [] ?_)
        exact k _ (same_of (vs := [.ptr d g 0, .sv (.str (bs t))]) hup hob hgen hhob)
      · have hat : isAt es t j = false := by
          unfold isAt
          rw [decide_eq_false hlt, Bool.false_and]
        rw [hat] at k
        repeat (first | simp only [go_sem, i0, i1, i6, hd', ho', hN', hnl] | simp (disch := first | exact oa | fail) only [AX, Int.reduceToNat, Int.reducePow, Nat.reducePow, i0, i1, i6, hd', ho', hN', hnl] | refine wki ?_ | refine wqn ?_ | refine vpd 4 [] ?_)
        exact k _ (same_of (vs := [.ptr d g 0, .sv (.str (bs t))]) hup hob hgen hhob)
    · have x1 := nam_at (es := es) (k := j) (by omega)
      have hls := cb_less (es.getD j default).1 t
      have h0 : Lib.compareBytes (es.getD j default).1 t < 0 := hp.lo j (by omega)
      rw [decide_eq_true h0] at hls
      generalize (es.getD j default).1 = ta at *
      repeat (first | simp only [go_sem, i0, i1, i6, hd', ho', hN', hnl, x1, List.head?_cons, bs_list, hls] | simp (disch := first | exact oa | fail) only [AX, Int.reduceToNat, Int.reducePow, Nat.reducePow, i0, i1, i6, hd', ho', hN', hnl, x1, List.head?_cons, bs_list, hls] | refine wki ?_ | refine wqn ?_ | refine vpd 4 [] ?_)
      exact ⟨⟨hup, hhob, hob, hgen, j + 1, rfl, by omega⟩, by omega⟩
theorem doc_Get_at (hp : PosAt es t p) (hl : es.length <= 100000) (hat : isAt es t p = true) (h : SessD st d g es D)
    (k : ∀ st', Same st st' -> WO CX false ops l (st'.putO dst (.sv (.tup [.sl (es.getD p default).2.1 (es.getD p default).2.2, .int .i64 0]))) Q) :
    WN CX ops l dst st Q 39 [.ptr d g 0, .sv (.str (bs t))] := by
  have hd' : 2000000 <= d := h.ob
  refine wni Tryz.f39 ?_; unfold Tryz.f39; simp only [Option.get!_some]
  repeat (first | simp only [go_sem, hd'] | simp (disch := first | exact oa | fail) only [AX, Int.reduceToNat, Int.reducePow, Nat.reducePow, hd'] | refine wki ?_ | refine wqn ?_)
  refine doc_at hp hl (h.same rfl rfl rfl) ?_
  intro s1 hk
  have k0 : s1.tmp 0 = .ptr d g 0 := hk.tmp 0
  have hpl : p < es.length := by
    unfold isAt at hat
    rw [Bool.and_eq_true] at hat
    exact of_decide_eq_true hat.1
  obtain ⟨_, hrow⟩ := h
  rcases hrow with ⟨rfl, _⟩ | ⟨dn, gn, dl, gl, en, el, gn1, gl1, ho, hN, hL⟩
  · simp at hpl
  have ho' : s1.hob d g = some [.ref dn gn 1 0 es.length, .ref dl gl 1 0 es.length, .sv (.int .i64 D)] := by rw [hk.hob]; exact ho
  have hL' : s1.obj dl gl = some (rowL es) := (hk.obj dl gl).trans hL
  have x1 := rowL_at hpl
  have hnl := rowL_len es
  have dl1 : decide (2000000 <= dl) = false := decide_eq_false (by omega)
  repeat (first | simp only [go_sem, hd', k0, hat, ho', hL', hnl, x1, List.head?_cons, Bool.not_true] | simp (disch := first | exact oa | fail) only [AX, Int.reduceToNat, Int.reducePow, Nat.reducePow, hd', k0, hat, ho', hL', hnl, x1, List.head?_cons, Bool.not_true] | refine wki ?_ | refine wqn ?_)
  exact k _ (same_leave (vs := [.ptr d g 0, .sv (.str (bs t))]) hk rfl rfl rfl rfl rfl rfl rfl rfl)
theorem doc_Get_none (hp : PosAt es t p) (hl : es.length <= 100000) (hat : isAt es t p = false) (h : SessD st d g es D)
    (k : ∀ st', Same st st' -> WO CX false ops l (st'.putO dst (.sv (.tup [.sl 0 [], .int .i64 6]))) Q) :
    WN CX ops l dst st Q 39 [.ptr d g 0, .sv (.str (bs t))] := by
  have hd' : 2000000 <= d := h.ob
  refine wni Tryz.f39 ?_; unfold Tryz.f39; simp only [Option.get!_some]
  repeat (first | simp only [go_sem, hd'] | simp (disch := first | exact oa | fail) only [AX, Int.reduceToNat, Int.reducePow, Nat.reducePow, hd'] | refine wki ?_ | refine wqn ?_)
  refine doc_at hp hl (h.same rfl rfl rfl) ?_
  intro s1 hk
  repeat (first | simp only [go_sem, hd', hat, Bool.not_false] | simp (disch := first | exact oa | fail) only [AX, Int.reduceToNat, Int.reducePow, Nat.reducePow, hd', hat, Bool.not_false] | refine wki ?_ | refine wqn ?_)
  exact k _ (same_leave (vs := [.ptr d g 0, .sv (.str (bs t))]) hk rfl rfl rfl rfl rfl rfl rfl rfl)
def digOk (n : Int) : Bool := decide (0 <= n) && decide (n <= 30)
theorem doc_SetDigits (n : Int) (h : SessD st d g es D)
    (k : ∀ st', KeepT TD d st st' -> SessD st' d g es (if digOk n = true then n else D) -> WO CX false ops l (st'.putO dst (.sv (.int .i64 (if digOk n = true then 0 else 1)))) Q) :
    WN CX ops l dst st Q 29 [.ptr d g 0, .sv (.int .i64 n)] := by
  have hd' : 2000000 <= d := h.ob
  have hs0 := h
  by_cases h1 : n < 0
  · have e : digOk n = false := by unfold digOk; rw [decide_eq_false (by omega), Bool.false_and]
    rw [e] at k
    simp only [Bool.false_eq_true, if_false] at k
    refine wni Tryz.f29 ?_; unfold Tryz.f29; simp only [Option.get!_some]
    repeat (first | simp only [go_sem, hd'] | simp (disch := first | exact oa | fail) only [AX, Int.reduceToNat, Int.reducePow, Nat.reducePow, hd'] | refine wki ?_ | refine wqn ?_)
    exact k _ (keep_of (by repeat (first | exact Kp.refl | refine Kp.put ?_ | refine Kp.setH ?_ | refine Kp.newset ?_ | refine Kp.set rfl ?_ | refine Kp.set (by assumption) ?_ | refine Kp.new ?_ | refine Kp.grow rfl ?_ | refine Kp.frzd rfl ?_ | refine Kp.ins rfl ?_))) (hs0.same rfl rfl rfl)
  by_cases h2 : 30 < n
  · have e : digOk n = false := by unfold digOk; rw [decide_eq_false (by omega : ¬ n <= 30), Bool.and_false]
    rw [e] at k
    simp only [Bool.false_eq_true, if_false] at k
    refine wni Tryz.f29 ?_; unfold Tryz.f29; simp only [Option.get!_some]
    repeat (first | simp only [go_sem, hd'] | simp (disch := first | exact oa | fail) only [AX, Int.reduceToNat, Int.reducePow, Nat.reducePow, hd'] | refine wki ?_ | refine wqn ?_)
    exact k _ (keep_of (by repeat (first | exact Kp.refl | refine Kp.put ?_ | refine Kp.setH ?_ | refine Kp.newset ?_ | refine Kp.set rfl ?_ | refine Kp.set (by assumption) ?_ | refine Kp.new ?_ | refine Kp.grow rfl ?_ | refine Kp.frzd rfl ?_ | refine Kp.ins rfl ?_))) (hs0.same rfl rfl rfl)
  · have e : digOk n = true := by unfold digOk; rw [decide_eq_true (by omega : 0 <= n), decide_eq_true (by omega : n <= 30)]; rfl
    rw [e] at k
    simp only [if_true] at k
    obtain ⟨_, hrow⟩ := h
    rcases hrow with ⟨rfl, ho⟩ | ⟨dn, gn, dl, gl, en, el, gn1, gl1, ho, hN, hL⟩
    · refine wni Tryz.f29 ?_; unfold Tryz.f29; simp only [Option.get!_some]
      repeat (first | simp only [go_sem, hd', ho] | simp (disch := first | exact oa | fail) only [AX, Int.reduceToNat, Int.reducePow, Nat.reducePow, hd', ho] | refine wki ?_ | refine wqn ?_)
      refine k _ (keep_of (by repeat (first | exact Kp.refl | refine Kp.put ?_ | refine Kp.setH ?_ | refine Kp.newset ?_ | refine Kp.set rfl ?_ | refine Kp.set (by assumption) ?_ | refine Kp.new ?_ | refine Kp.grow rfl ?_ | refine Kp.frzd rfl ?_ | refine Kp.ins rfl ?_))) ⟨hd', .inl ⟨rfl, ?_⟩⟩
      simp only [hob_leave, hob_put, hob_setH, and_self, if_true]
    · refine wni Tryz.f29 ?_; unfold Tryz.f29; simp only [Option.get!_some]
      repeat (first | simp only [go_sem, hd', ho] | simp (disch := first | exact oa | fail) only [AX, Int.reduceToNat, Int.reducePow, Nat.reducePow, hd', ho] | refine wki ?_ | refine wqn ?_)
      refine k _ (keep_of (by repeat (first | exact Kp.refl | refine Kp.put ?_ | refine Kp.setH ?_ | refine Kp.newset ?_ | refine Kp.set rfl ?_ | refine Kp.set (by assumption) ?_ | refine Kp.new ?_ | refine Kp.grow rfl ?_ | refine Kp.frzd rfl ?_ | refine Kp.ins rfl ?_))) ⟨hd', .inr ⟨dn, gn, dl, gl, en, el, gn1, gl1, ?_, hN, hL⟩⟩
      simp only [hob_leave, hob_put, hob_setH, and_self, if_true]
theorem sess_SetDigits (n : Int) (h : SessR st d g es D)
    (k : ∀ st', Keep d st st' -> SessR st' d g es (if digOk n = true then n else D) -> WO CX false ops l (st'.putO dst (.sv (.int .i64 (if digOk n = true then 0 else 1)))) Q) :
    WN CX ops l dst st Q 28 [.ptr d g 0, .sv (.int .i64 n)] := by
  have hd' : 2000000 <= d := h.ob
  have hs0 := h
  by_cases h1 : n < 0
  · have e : digOk n = false := by unfold digOk; rw [decide_eq_false (by omega), Bool.false_and]
    rw [e] at k
    simp only [Bool.false_eq_true, if_false] at k
    refine wni Tryz.f28 ?_; unfold Tryz.f28; simp only [Option.get!_some]
    repeat (first | simp only [go_sem, hd'] | simp (disch := first | exact oa | fail) only [AX, Int.reduceToNat, Int.reducePow, Nat.reducePow, hd'] | refine wki ?_ | refine wqn ?_)
    exact k _ (keep_of (by repeat (first | exact Kp.refl | refine Kp.put ?_ | refine Kp.setH ?_ | refine Kp.newset ?_ | refine Kp.set rfl ?_ | refine Kp.set (by assumption) ?_ | refine Kp.new ?_ | refine Kp.grow rfl ?_ | refine Kp.frzd rfl ?_ | refine Kp.ins rfl ?_))) (hs0.of rfl (fun _ => rfl) (Nat.le_refl _))
  by_cases h2 : 30 < n
  · have e : digOk n = false := by unfold digOk; rw [decide_eq_false (by omega : ¬ n <= 30), Bool.and_false]
    rw [e] at k
    simp only [Bool.false_eq_true, if_false] at k
    refine wni Tryz.f28 ?_; unfold Tryz.f28; simp only [Option.get!_some]
    repeat (first | simp only [go_sem, hd'] | simp (disch := first | exact oa | fail) only [AX, Int.reduceToNat, Int.reducePow, Nat.reducePow, hd'] | refine wki ?_ | refine wqn ?_)
    exact k _ (keep_of (by repeat (first | exact Kp.refl | refine Kp.put ?_ | refine Kp.setH ?_ | refine Kp.newset ?_ | refine Kp.set rfl ?_ | refine Kp.set (by assumption) ?_ | refine Kp.new ?_ | refine Kp.grow rfl ?_ | refine Kp.frzd rfl ?_ | refine Kp.ins rfl ?_))) (hs0.of rfl (fun _ => rfl) (Nat.le_refl _))
  · have e : digOk n = true := by unfold digOk; rw [decide_eq_true (by omega : 0 <= n), decide_eq_true (by omega : n <= 30)]; rfl
    rw [e] at k
    simp only [if_true] at k
    obtain ⟨_, hrow⟩ := h
    rcases hrow with ⟨rfl, ho⟩ | ⟨g1, hg1, ho, hobj⟩
    · refine wni Tryz.f28 ?_; unfold Tryz.f28; simp only [Option.get!_some]
      repeat (first | simp only [go_sem, hd', ho] | simp (disch := first | exact oa | fail) only [AX, Int.reduceToNat, Int.reducePow, Nat.reducePow, hd', ho] | refine wki ?_ | refine wqn ?_)
      refine k _ (keep_of (by repeat (first | exact Kp.refl | refine Kp.put ?_ | refine Kp.setH ?_ | refine Kp.newset ?_ | refine Kp.set rfl ?_ | refine Kp.set (by assumption) ?_ | refine Kp.new ?_ | refine Kp.grow rfl ?_ | refine Kp.frzd rfl ?_ | refine Kp.ins rfl ?_))) ⟨hd', .inl ⟨rfl, ?_⟩⟩
      simp only [hob_leave, hob_put, hob_setH, and_self, if_true]
    · refine wni Tryz.f28 ?_; unfold Tryz.f28; simp only [Option.get!_some]
      repeat (first | simp only [go_sem, hd', ho] | simp (disch := first | exact oa | fail) only [AX, Int.reduceToNat, Int.reducePow, Nat.reducePow, hd', ho] | refine wki ?_ | refine wqn ?_)
      refine k _ (keep_of (by repeat (first | exact Kp.refl | refine Kp.put ?_ | refine Kp.setH ?_ | refine Kp.newset ?_ | refine Kp.set rfl ?_ | refine Kp.set (by assumption) ?_ | refine Kp.new ?_ | refine Kp.grow rfl ?_ | refine Kp.frzd rfl ?_ | refine Kp.ins rfl ?_))) ⟨hd', .inr ⟨g1, hg1, ?_, hobj⟩⟩
      simp only [hob_leave, hob_put, hob_setH, and_self, if_true]
end
end Go.Proofs.YticocojomlfhgaaGreatDoor
namespace Go.Proofs.YticocojomlfhgaaGreatDoor
open Go.Ev
theorem trim_all {l cs : List UInt8} {p : UInt8 -> Bool} (e : ∀ b, cs.contains b = p b) : (Lib.trimS l cs).isEmpty = l.all p := by
  have e : (fun b => cs.contains b) = p := funext e
  have h1 : Lib.trimS l cs = (l.reverse.dropWhile p).reverse.dropWhile p := by
    unfold Lib.trimS Lib.trimLeftS Lib.trimRightS
    rw [e]
  rw [h1]
  cases hl : l.all p with
  | true =>
    have : l.reverse.dropWhile p = [] := drop_nil.2 (by rw [List.all_reverse]; exact hl)
    rw [this]
    rfl
  | false =>
    have h2 : l.reverse.dropWhile p ≠ [] := fun h => by
      have := drop_nil.1 h
      rw [List.all_reverse, hl] at this
      cases this
    have h3 : ((l.reverse.dropWhile p).reverse.dropWhile p) ≠ [] := fun h => by
      have h4 := drop_nil.1 h
      rw [List.all_reverse] at h4
      cases hd : l.reverse.dropWhile p with
      | nil => exact h2 hd
      | cons b r =>
        have h5 := List.head_dropWhile_not p (w := h2)
        rw [hd] at h4
        rw [List.all_cons, Bool.and_eq_true] at h4
        simp only [hd, List.head_cons] at h5
        rw [h4.1] at h5
        cases h5
    cases h : ((l.reverse.dropWhile p).reverse.dropWhile p) with
    | nil => exact absurd h h3
    | cons b r => rfl
def letr (b : UInt8) : Bool := decide (97 <= b.toNat) && decide (b.toNat <= 122)
def nch (b : UInt8) : Bool := letr b || (decide (48 <= b.toNat) && decide (b.toNat <= 57))
theorem sgn_nch (b : UInt8) : sgnB.contains b = nch b := by
  have key : ∀ n : Nat, n < 256 -> sgnB.contains (UInt8.ofNat n) = nch (UInt8.ofNat n) := by decide +kernel
  have := key b.toNat b.toNat_lt
  rwa [UInt8.ofNat_toNat] at this
theorem let_letr (b : UInt8) : decide (0 <= Lib.indexByte letB b) = letr b := by
  have key : ∀ n : Nat, n < 256 -> decide (0 <= Lib.indexByte letB (UInt8.ofNat n)) = letr (UInt8.ofNat n) := by decide +kernel
  have := key b.toNat b.toNat_lt
  rwa [UInt8.ofNat_toNat] at this
theorem name_is (b : UInt8) (r : List UInt8) : nameP (b :: r) = (decide (r.length < 12) && (letr b && (b :: r).all nch)) := by
  show (decide (r.length < 12) && (decide (0 <= Lib.indexByte letB b) && (Lib.trimS (b :: r) sgnB).isEmpty)) = _
  rw [let_letr, trim_all sgn_nch]
theorem all_take_succ {α : Type} {p : α -> Bool} {l : List α} {i : Nat} {b : α} (h : l[i]? = some b) : (l.take (i + 1)).all p = ((l.take i).all p && p b) := by
  rw [List.take_add_one, h, List.all_append]
  simp
theorem all_false {α : Type} {p : α -> Bool} {l : List α} {i : Nat} {b : α} (h : l[i]? = some b) (hb : p b = false) : l.all p = false := by
  cases e : l.all p with
  | false => rfl
  | true =>
    have := List.all_eq_true.1 e b (List.mem_of_getElem? h)
    rw [hb] at this
    cases this
theorem ref22_Name (t : List UInt8) : Go.Ev.Fn CX 24 [.str (bs t)] (.bool (nameP t)) := by
  cases t with
  | nil =>
    rw [show nameP [] = false from rfl]
    refine fni Tryz.f24 ?_; unfold Tryz.f24; simp only [Option.get!_some]
    repeat (first | simp only [go_sem, bs_size] | simp (disch := first | exact oa | fail) only [AX, Int.reduceToNat, Int.reducePow, Nat.reducePow, bs_size] | refine wki ?_ | refine wqn ?_)
  | cons b0 r =>
    rw [name_is]
    have hx0 : (b0 :: r)[0]? = some b0 := rfl
    have hsz : (b0 :: r).length = r.length + 1 := rfl
    by_cases h12 : r.length < 12
    · rw [decide_eq_true h12, Bool.true_and]
      cases hlet : letr b0 with
      | false =>
        rw [Bool.false_and]
        unfold letr at hlet
        generalize (b0 :: r) = l at *
        by_cases hlo : b0.toNat < 97
        · refine fni Tryz.f24 ?_; unfold Tryz.f24; simp only [Option.get!_some]
          repeat (first | simp only [go_sem, bs_size, hsz, hx0, vo_ix, idxB_bs, Option.map_some] | simp (disch := first | exact oa | fail) only [AX, Int.reduceToNat, Int.reducePow, Nat.reducePow, bs_size, hsz, hx0, vo_ix, idxB_bs, Option.map_some] | refine wki ?_ | refine wqn ?_)
        · have hhi : 122 < b0.toNat := by
            rw [decide_eq_true (by omega), Bool.true_and] at hlet
            have := of_decide_eq_false hlet
            omega
          refine fni Tryz.f24 ?_; unfold Tryz.f24; simp only [Option.get!_some]
          repeat (first | simp only [go_sem, bs_size, hsz, hx0, vo_ix, idxB_bs, Option.map_some] | simp (disch := first | exact oa | fail) only [AX, Int.reduceToNat, Int.reducePow, Nat.reducePow, bs_size, hsz, hx0, vo_ix, idxB_bs, Option.map_some] | refine wki ?_ | refine wqn ?_)
      | true =>
        rw [Bool.true_and]
        unfold letr at hlet
        rw [Bool.and_eq_true] at hlet
        have h97 := of_decide_eq_true hlet.1
        have h122 := of_decide_eq_true hlet.2
        generalize (b0 :: r) = l at *
        refine fni Tryz.f24 ?_; unfold Tryz.f24; simp only [Option.get!_some]
        repeat (first | simp only [go_sem, bs_size, hsz, hx0, vo_ix, idxB_bs, Option.map_some] | simp (disch := first | exact oa | fail) only [AX, Int.reduceToNat, Int.reducePow, Nat.reducePow, bs_size, hsz, hx0, vo_ix, idxB_bs, Option.map_some] | refine wki ?_ | refine wqn ?_)
        refine vp_loop_inv (fun s => s.tmp 0 = .sv (.str (bs l)) /\ ∃ i : Nat, s.tmp 3 = .sv (.int .i64 (i : Int)) /\ i <= l.length /\ (l.take i).all nch = true)
          (fun s => match s.tmp 3 with | .sv (.int _ i) => l.length - i.toNat | _ => 0) ⟨rfl, 0, rfl, by omega, rfl⟩ ?_
        rintro s ⟨i0, i, i3, hi, hall⟩
        by_cases hend : i = l.length
        · subst hend
          rw [List.take_length] at hall
          rw [hall]
          repeat (first | simp only [go_sem, i0, i3, bs_size] | simp (disch := first | exact oa | fail) only [AX, Int.reduceToNat, Int.reducePow, Nat.reducePow, i0, i3, bs_size] | refine wki ?_ | refine wqn ?_)
        · obtain ⟨b, hb⟩ : ∃ b, l[i]? = some b := ⟨_, List.getElem?_eq_getElem (by omega)⟩
          have hsn := all_take_succ (p := nch) hb
          rw [hall, Bool.true_and] at hsn
          cases hn : nch b with
          | true =>
            rw [hn] at hsn
            unfold nch letr at hn
            simp only [Bool.or_eq_true, Bool.and_eq_true, decide_eq_true_eq] at hn
            by_cases c1 : 97 <= b.toNat /\ b.toNat <= 122
            · repeat (first | simp only [go_sem, i0, i3, bs_size, hb, vo_ix, idxB_bs, Option.map_some] | simp (disch := first | exact oa | fail) only [AX, Int.reduceToNat, Int.reducePow, Nat.reducePow, i0, i3, bs_size, hb, vo_ix, idxB_bs, Option.map_some] | refine wki ?_ | refine wqn ?_)
              exact ⟨⟨i + 1, rfl, by omega, hsn⟩, by omega⟩
            · by_cases c2 : b.toNat < 97
              · repeat (first | simp only [go_sem, i0, i3, bs_size, hb, vo_ix, idxB_bs, Option.map_some] | simp (disch := first | exact oa | fail) only [AX, Int.reduceToNat, Int.reducePow, Nat.reducePow, i0, i3, bs_size, hb, vo_ix, idxB_bs, Option.map_some] | refine wki ?_ | refine wqn ?_)
                exact ⟨⟨i + 1, rfl, by omega, hsn⟩, by omega⟩
              · exfalso
                omega
          | false =>
            rw [all_false hb hn]
            unfold nch letr at hn
            simp only [Bool.or_eq_false_iff, Bool.and_eq_false_iff, decide_eq_false_iff_not] at hn
            by_cases c1 : b.toNat < 97
            · by_cases c3 : b.toNat < 48
              · repeat (first | simp only [go_sem, i0, i3, bs_size, hb, vo_ix, idxB_bs, Option.map_some] | simp (disch := first | exact oa | fail) only [AX, Int.reduceToNat, Int.reducePow, Nat.reducePow, i0, i3, bs_size, hb, vo_ix, idxB_bs, Option.map_some] | refine wki ?_ | refine wqn ?_)
              · repeat (first | simp only [go_sem, i0, i3, bs_size, hb, vo_ix, idxB_bs, Option.map_some] | simp (disch := first | exact oa | fail) only [AX, Int.reduceToNat, Int.reducePow, Nat.reducePow, i0, i3, bs_size, hb, vo_ix, idxB_bs, Option.map_some] | refine wki ?_ | refine wqn ?_)
            · by_cases c3 : b.toNat < 48
              · exfalso
                omega
              · repeat (first | simp only [go_sem, i0, i3, bs_size, hb, vo_ix, idxB_bs, Option.map_some] | simp (disch := first | exact oa | fail) only [AX, Int.reduceToNat, Int.reducePow, Nat.reducePow, i0, i3, bs_size, hb, vo_ix, idxB_bs, Option.map_some] | refine wki ?_ | refine wqn ?_)
    · rw [decide_eq_false h12, Bool.false_and]
      generalize (b0 :: r) = l at *
      refine fni Tryz.f24 ?_; unfold Tryz.f24; simp only [Option.get!_some]
      repeat (first | simp only [go_sem, bs_size, hsz, hx0, vo_ix, idxB_bs, Option.map_some] | simp (disch := first | exact oa | fail) only [AX, Int.reduceToNat, Int.reducePow, Nat.reducePow, bs_size, hsz, hx0, vo_ix, idxB_bs, Option.map_some] | refine wki ?_ | refine wqn ?_)
end Go.Proofs.YticocojomlfhgaaGreatDoor
set_option maxHeartbeats 4000000
namespace Go.Proofs.YticocojomlfhgaaGreatDoor
open Go.Ev
theorem nam_take (es : List Ent) (i : Nat) : (namC es).take i = namC (es.take i) := by unfold namC; rw [List.map_take]
theorem nam_drop (es : List Ent) (i : Nat) : (namC es).drop i = namC (es.drop i) := by unfold namC; rw [List.map_drop]
theorem rowL_take (es : List Ent) (i : Nat) : (rowL es).take i = rowL (es.take i) := by unfold rowL; rw [List.map_take]
theorem rowL_drop (es : List Ent) (i : Nat) : (rowL es).drop i = rowL (es.drop i) := by unfold rowL; rw [List.map_drop]
theorem one_nam (es : List Ent) : oneAll (namC es) = true := by
  unfold oneAll namC
  rw [List.all_map]
  exact List.all_eq_true.2 fun x _ => rfl
theorem one_row (es : List Ent) : oneAll (rowL es) = true := by
  unfold oneAll rowL
  rw [List.all_map]
  exact List.all_eq_true.2 fun x _ => rfl
section
variable {ops : Array Oper} {l : List Oper} {dst : Option Nat} {st : St} {Q : St -> Prop} {d g p : Nat} {es : List Ent} {t : List UInt8} {D : Int}
theorem doc_Set_name {tl : TV} (hn : nameP t = false) (h : SessD st d g es D)
    (k : ∀ st', KeepT TD d st st' -> SessD st' d g es D -> WO CX false ops l (st'.putO dst (.sv (.int .i64 6))) Q) :
    WN CX ops l dst st Q 26 [.ptr d g 0, .sv (.str (bs t)), tl] := by
  have nm := ref22_Name t
  rw [hn] at nm
  have hd' : 2000000 <= d := h.ob
  refine wni Tryz.f26 ?_; unfold Tryz.f26; simp only [Option.get!_some]
  repeat (first | simp only [go_sem, hd', Bool.not_false] | simp (disch := first | exact oa | fail) only [AX, Int.reduceToNat, Int.reducePow, Nat.reducePow, hd', Bool.not_false] | refine wki ?_ | refine wqn ?_ | refine vpl 16 [] [([0, 1, 2, 3, 4, 5, 6, 7, 8, 10, 11, 12, 13, 14, 15, 16], some (9, [0, 1, 10, 11, 12, 13, 14, 15, 16])), ([], some (17, [0, 1])), ([18, 19], some (20, [1])), ([21, 22], some (23, [])), ([], none)] ?_ | refine vf_of (by first | exact nm) ?_)
  exact k _ (keep_of (by repeat (first | exact Kp.refl | refine Kp.put ?_ | refine Kp.setH ?_ | refine Kp.newset ?_ | refine Kp.set rfl ?_ | refine Kp.set (by assumption) ?_ | refine Kp.new ?_ | refine Kp.grow rfl ?_ | refine Kp.frzd rfl ?_ | refine Kp.ins rfl ?_))) (h.same rfl rfl rfl)
theorem doc_Set_lim {m : Nat} {cs : List SV} (hn : nameP t = true) (hp : PosAt es t p) (hl : es.length <= 100000) (hlim : 256 < m \/ (isAt es t p = false /\ 16 <= es.length)) (h : SessD st d g es D)
    (k : ∀ st', KeepT TD d st st' -> SessD st' d g es D -> WO CX false ops l (st'.putO dst (.sv (.int .i64 7))) Q) :
    WN CX ops l dst st Q 26 [.ptr d g 0, .sv (.str (bs t)), .sv (.sl m cs)] := by
  have nm := ref22_Name t
  rw [hn] at nm
  have hd' : 2000000 <= d := h.ob
  refine wni Tryz.f26 ?_; unfold Tryz.f26; simp only [Option.get!_some]
  repeat (first | simp only [go_sem, hd', Bool.not_true] | simp (disch := first | exact oa | fail) only [AX, Int.reduceToNat, Int.reducePow, Nat.reducePow, hd', Bool.not_true] | refine wki ?_ | refine wqn ?_ | refine vpl 16 [] [([0, 1, 2, 3, 4, 5, 6, 7, 8, 10, 11, 12, 13, 14, 15, 16], some (9, [0, 1, 10, 11, 12, 13, 14, 15, 16])), ([], some (17, [0, 1])), ([18, 19], some (20, [1])), ([21, 22], some (23, [])), ([], none)] ?_ | refine vf_of (by first | exact nm) ?_)
  refine doc_at hp hl (h.same rfl rfl rfl) ?_
  intro s1 hk
  have k0 : s1.tmp 0 = .ptr d g 0 := hk.tmp 0
  have k2 : s1.tmp 2 = .sv (.sl m cs) := hk.tmp 2
  have hs0 : SessD s1 d g es D := h.same (hk.hob.trans rfl) (funext fun a => funext fun b => (hk.obj a b).trans rfl) (hk.gen.trans rfl)
  have hu := (hk.keep (T := TD) (d := d)).kp
  by_cases hm : 256 < m
  · repeat (first | simp only [go_sem, hd', k0, k2] | simp (disch := first | exact oa | fail) only [AX, Int.reduceToNat, Int.reducePow, Nat.reducePow, hd', k0, k2] | refine wki ?_ | refine wqn ?_ | refine vpl 16 [] [([0, 1, 2, 3, 4, 5, 6, 7, 8, 10, 11, 12, 13, 14, 15, 16], some (9, [0, 1, 10, 11, 12, 13, 14, 15, 16])), ([], some (17, [0, 1])), ([18, 19], some (20, [1])), ([21, 22], some (23, [])), ([], none)] ?_)
    exact k _ (keep_of (by repeat (first | exact Kp.refl | exact hu | refine Kp.trans ?_ hu | refine Kp.put ?_ | refine Kp.setH ?_ | refine Kp.newset ?_ | refine Kp.set rfl ?_ | refine Kp.set (by assumption) ?_ | refine Kp.new ?_ | refine Kp.grow rfl ?_ | refine Kp.frzd rfl ?_ | refine Kp.ins rfl ?_))) (hs0.same rfl rfl rfl)
  · obtain ⟨hat, h16⟩ := hlim.resolve_left hm
    have hs1 := hs0
    obtain ⟨_, hrow⟩ := hs1
    rcases hrow with ⟨rfl, _⟩ | ⟨dn, gn, dl, gl, en, el, gn1, gl1, ho, hN, hL⟩
    · simp at h16
    repeat (first | simp only [go_sem, hd', k0, k2, hat, ho, Bool.not_false] | simp (disch := first | exact oa | fail) only [AX, Int.reduceToNat, Int.reducePow, Nat.reducePow, hd', k0, k2, hat, ho, Bool.not_false] | refine wki ?_ | refine wqn ?_ | refine vpl 16 [] [([0, 1, 2, 3, 4, 5, 6, 7, 8, 10, 11, 12, 13, 14, 15, 16], some (9, [0, 1, 10, 11, 12, 13, 14, 15, 16])), ([], some (17, [0, 1])), ([18, 19], some (20, [1])), ([21, 22], some (23, [])), ([], none)] ?_)
    exact k _ (keep_of (by repeat (first | exact Kp.refl | exact hu | refine Kp.trans ?_ hu | refine Kp.put ?_ | refine Kp.setH ?_ | refine Kp.newset ?_ | refine Kp.set rfl ?_ | refine Kp.set (by assumption) ?_ | refine Kp.new ?_ | refine Kp.grow rfl ?_ | refine Kp.frzd rfl ?_ | refine Kp.ins rfl ?_))) (hs0.same rfl rfl rfl)
theorem doc_Set_at {ql : List Rat} {cs : List SV} {L : Nat} (hrow : RowC cs ql L) (hL1 : 1 <= L) (hL : L <= 10000) (hm : ql.length <= 256) (hn : nameP t = true) (hp : PosAt es t p) (hl : es.length <= 100000) (hat : isAt es t p = true) (h : SessD st d g es D)
    (k : ∀ st', KeepT TD d st st' -> SessD st' d g (es.set p (t, ql.length, rvsC ql)) D -> WO CX false ops l (st'.putO dst (.sv (.int .i64 0))) Q) :
    WN CX ops l dst st Q 26 [.ptr d g 0, .sv (.str (bs t)), .sv (.sl ql.length cs)] := by
  have nm := ref22_Name t
  rw [hn] at nm
  have hlen := row_len hrow
  have hd' : 2000000 <= d := h.ob
  have hple := hp.le
  refine wni Tryz.f26 ?_; unfold Tryz.f26; simp only [Option.get!_some]
  repeat (first | simp only [go_sem, hd', Bool.not_true] | simp (disch := first | exact oa | fail) only [AX, Int.reduceToNat, Int.reducePow, Nat.reducePow, hd', Bool.not_true] | refine wki ?_ | refine wqn ?_ | refine vpl 16 [] [([0, 1, 2, 3, 4, 5, 6, 7, 8, 10, 11, 12, 13, 14, 15, 16], some (9, [0, 1, 10, 11, 12, 13, 14, 15, 16])), ([], some (17, [0, 1])), ([18, 19], some (20, [1])), ([21, 22], some (23, [])), ([], none)] ?_ | refine vf_of (by first | exact nm) ?_)
  refine doc_at hp hl (h.same rfl rfl rfl) ?_
  intro s1 hk
  have k0 : s1.tmp 0 = .ptr d g 0 := hk.tmp 0
  have k1 : s1.tmp 1 = .sv (.str (bs t)) := hk.tmp 1
  have k2 : s1.tmp 2 = .sv (.sl ql.length cs) := hk.tmp 2
  have hs0 : SessD s1 d g es D := h.same (hk.hob.trans rfl) (funext fun a => funext fun b => (hk.obj a b).trans rfl) (hk.gen.trans rfl)
  have hu := (hk.keep (T := TD) (d := d)).kp
  clear hk h
  have hu : Kp TD d (st.enter [.ptr d g 0, .sv (.str (bs t)), .sv (.sl ql.length cs)]) s1 := (by repeat (first | exact Kp.refl | exact hu | refine Kp.trans ?_ hu | refine Kp.put ?_ | refine Kp.setH ?_ | refine Kp.newset ?_ | refine Kp.set rfl ?_ | refine Kp.set (by assumption) ?_ | refine Kp.new ?_ | refine Kp.grow rfl ?_ | refine Kp.frzd rfl ?_ | refine Kp.ins rfl ?_))
  obtain ⟨_, hrw⟩ := hs0
  have hplt : p < es.length := by
    have h2 := hat
    unfold isAt at h2
    rw [Bool.and_eq_true] at h2
    exact of_decide_eq_true h2.1
  rcases hrw with ⟨rfl, ho⟩ | ⟨dn, gn, dl, gl, en, el, gn1, gl1, ho, hN, hL'⟩
  · simp at hplt
  have tdn : TD dn = true := by rcases en with rfl | rfl <;> rfl
  have tdl : TD dl = true := by rcases el with rfl | rfl <;> rfl
  have dn50 : (dn = 50) = False := eq_false (by omega)
  have dl50 : (dl = 50) = False := eq_false (by omega)
  have dn49 : (dn = 49) = False := eq_false (by omega)
  have dl49 : (dl = 49) = False := eq_false (by omega)
  repeat (first | simp only [go_sem, hd', k0, k1, k2, hat, ho, Bool.not_true] | simp (disch := first | exact oa | fail) only [AX, Int.reduceToNat, Int.reducePow, Nat.reducePow, hd', k0, k1, k2, hat, ho, Bool.not_true] | refine wki ?_ | refine wqn ?_ | refine vpl 16 [] [([0, 1, 2, 3, 4, 5, 6, 7, 8, 10, 11, 12, 13, 14, 15, 16], some (9, [0, 1, 10, 11, 12, 13, 14, 15, 16])), ([], some (17, [0, 1])), ([18, 19], some (20, [1])), ([21, 22], some (23, [])), ([], none)] ?_)
  refine vp_loop_inv (fun s => s.tmp 0 = .ptr d g 0 /\ s.tmp 1 = .sv (.str (bs t)) /\ s.tmp 2 = .sv (.sl ql.length cs) /\ s.tmp 7 = .sv (.int .i64 (p : Int)) /\ s.tmp 8 = .sv (.bool true) /\ Kp TD d (st.enter [.ptr d g 0, .sv (.str (bs t)), .sv (.sl ql.length cs)]) s /\
      s.hob d g = some [.ref dn gn 1 0 es.length, .ref dl gl 1 0 es.length, .sv (.int .i64 D)] /\ s.obj dn gn = some (namC es) /\ s.obj dl gl = some (rowL es) /\ gn < s.gen dn /\ gl < s.gen dl /\
      ∃ i : Nat, s.tmp 10 = .sv (.int .i64 (i : Int)) /\ i <= ql.length /\ ((i = 0 /\ s.tmp 9 = .nil) \/ ∃ g3, 0 < i /\ g3 < s.gen 50 /\ s.tmp 9 = .ref 50 g3 3 0 i /\ s.obj 50 g3 = some (rvsC (ql.take i))))
    (fun s => match s.tmp 10 with | .sv (.int _ i) => ql.length - i.toNat | _ => 0) ⟨k0, k1, k2, rfl, rfl, (by repeat (first | exact Kp.refl | exact hu | refine Kp.trans ?_ hu | refine Kp.put ?_ | refine Kp.setH ?_ | refine Kp.newset ?_ | refine Kp.set rfl ?_ | refine Kp.set (by assumption) ?_ | refine Kp.new ?_ | refine Kp.grow rfl ?_ | refine Kp.frzd rfl ?_ | refine Kp.ins rfl ?_)), ho, hN, hL', gn1, gl1, 0, rfl, by omega, .inl ⟨rfl, rfl⟩⟩ ?_
  rintro s ⟨i0, i1, i2, i7, i8, iU, iH, iN, iL, ign, igl, i, i10, hi, hcase⟩
  by_cases hend : i = ql.length
  · subst hend
    rw [List.take_length] at hcase
    have hnl := rowL_len es
    have hset : (rowL es).set p (.sl ql.length (rvsC ql)) = rowL (es.set p (t, ql.length, rvsC ql)) := by
      unfold rowL
      rw [List.map_set]
    have hsp : List.take p (rowL es) ++ [SV.sl ql.length (rvsC ql)] ++ List.drop (p + 1) (rowL es) = rowL (es.set p (t, ql.length, rvsC ql)) := by
      rw [<- hset, List.set_eq_take_append_cons_drop, if_pos (by rw [hnl]; exact hplt), List.append_assoc]
      rfl
    have hnm : namC (es.set p (t, ql.length, rvsC ql)) = namC es := by
      have hname := name_at hat
      unfold namC
      rw [List.map_set]
      refine List.ext_getElem? fun j => ?_
      rw [List.getElem?_set]
      split
      · rename_i e
        subst e
        rw [if_pos (by simpa using hplt), List.getElem?_map, List.getElem?_eq_getElem hplt]
        rw [List.getD_eq_getElem?_getD, List.getElem?_eq_getElem hplt] at hname
        simp only [Option.getD_some] at hname
        simp only [Option.map_some, hname]
      · rfl
    rcases hcase with ⟨h0, i9⟩ | ⟨g3, h0, hg3, i9, iO⟩
    · have hq : ql = [] := List.eq_nil_of_length_eq_zero h0
      subst hq
      repeat (first | simp only [go_sem, hd', i0, i1, i2, i7, i8, i10, i9, iH, iL, hplt, hnl] | simp (disch := first | exact oa | fail) only [AX, Int.reduceToNat, Int.reducePow, Nat.reducePow, hd', i0, i1, i2, i7, i8, i10, i9, iH, iL, hplt, hnl] | refine wki ?_ | refine wqn ?_ | refine vpl 16 [] [([0, 1, 2, 3, 4, 5, 6, 7, 8, 10, 11, 12, 13, 14, 15, 16], some (9, [0, 1, 10, 11, 12, 13, 14, 15, 16])), ([], some (17, [0, 1])), ([18, 19], some (20, [1])), ([21, 22], some (23, [])), ([], none)] ?_)
      refine k _ (keep_of (by repeat (first | exact Kp.refl | exact iU | refine Kp.trans ?_ iU | refine Kp.put ?_ | refine Kp.setH ?_ | refine Kp.newset ?_ | refine Kp.set rfl ?_ | refine Kp.set (by assumption) ?_ | refine Kp.new ?_ | refine Kp.grow rfl ?_ | refine Kp.frzd rfl ?_ | refine Kp.ins rfl ?_))) ?_
      refine ⟨hd', .inr ⟨dn, gn, dl, gl, en, el, ign, igl, ?_, ?_, ?_⟩⟩
      · simp only [hob_leave, hob_put, hob_set]
        rw [iH, List.length_set]
      · simp only [obj_leave, obj_put, obj_set]
        rw [if_neg (by omega), hnm]
        exact iN
      · simp only [obj_leave, obj_put, obj_set, and_self, if_true]
        exact congrArg some hsp
    · have hts : List.take (ql.length * 3) (rvsC ql) = rvsC ql := List.take_of_length_le (by rw [rvsC_len]; omega)
      repeat (first | simp only [go_sem, hd', i0, i1, i2, i7, i8, i10, i9, iH, iL, iO, dl50, dn50, hplt, hnl, hts] | simp (disch := first | exact oa | fail) only [AX, Int.reduceToNat, Int.reducePow, Nat.reducePow, hd', i0, i1, i2, i7, i8, i10, i9, iH, iL, iO, dl50, dn50, hplt, hnl, hts] | refine wki ?_ | refine wqn ?_ | refine vpl 16 [] [([0, 1, 2, 3, 4, 5, 6, 7, 8, 10, 11, 12, 13, 14, 15, 16], some (9, [0, 1, 10, 11, 12, 13, 14, 15, 16])), ([], some (17, [0, 1])), ([18, 19], some (20, [1])), ([21, 22], some (23, [])), ([], none)] ?_)
      refine k _ (keep_of (by repeat (first | exact Kp.refl | exact iU | refine Kp.trans ?_ iU | refine Kp.put ?_ | refine Kp.setH ?_ | refine Kp.newset ?_ | refine Kp.set rfl ?_ | refine Kp.set (by assumption) ?_ | refine Kp.new ?_ | refine Kp.grow rfl ?_ | refine Kp.frzd rfl ?_ | refine Kp.ins rfl ?_))) ?_
      refine ⟨hd', .inr ⟨dn, gn, dl, gl, en, el, ign, igl, ?_, ?_, ?_⟩⟩
      · simp only [hob_leave, hob_put, hob_set, hob_frzd]
        rw [iH, List.length_set]
        simp only [Option.map_some, List.map_cons, List.map_nil, TV.frz, dn50, dl50, false_and, if_false]
      · simp only [obj_leave, obj_put, obj_set, obj_frzd]
        rw [if_neg (by omega), if_neg (by omega), hnm]
        exact iN
      · simp only [obj_leave, obj_put, obj_set, and_self, if_true]
        exact congrArg some hsp
  · obtain ⟨x, n, dd, rest, hxt, hA⟩ := row_at (i := i) hrow (by omega)
    have a := ref2_Norm hA (by omega)
    have hsn := rvs_snocA (l := ql) (i := i) (by omega)
    have hrl := rvsC_len (ql.take i)
    rw [List.length_take, Nat.min_eq_left (by omega)] at hrl
    rcases hcase with ⟨h0, i9⟩ | ⟨g3, h0, hg3, i9, iO⟩
    · subst h0
      rw [List.take_zero, rvsC_nil, List.nil_append] at hsn
      rw [Nat.zero_mul, List.drop_zero] at hxt
      subst hxt
      repeat (first | simp only [go_sem, hd', i0, i1, i2, i7, i8, i10, i9, iH, iL, N0, rvC] | simp (disch := first | exact oa | fail) only [AX, Int.reduceToNat, Int.reducePow, Nat.reducePow, hd', i0, i1, i2, i7, i8, i10, i9, iH, iL, N0, rvC] | refine wki ?_ | refine wqn ?_ | refine vpl 16 [] [([0, 1, 2, 3, 4, 5, 6, 7, 8, 10, 11, 12, 13, 14, 15, 16], some (9, [0, 1, 10, 11, 12, 13, 14, 15, 16])), ([], some (17, [0, 1])), ([18, 19], some (20, [1])), ([21, 22], some (23, [])), ([], none)] ?_ | refine vf_of (by first | exact a) ?_)
      exact ⟨⟨(by repeat (first | exact Kp.refl | exact iU | refine Kp.trans ?_ iU | refine Kp.put ?_ | refine Kp.setH ?_ | refine Kp.newset ?_ | refine Kp.set rfl ?_ | refine Kp.set (by assumption) ?_ | refine Kp.new ?_ | refine Kp.grow rfl ?_ | refine Kp.frzd rfl ?_ | refine Kp.ins rfl ?_)), iN, ign, igl, 1, rfl, by omega, .inr ⟨s.gen 50, by omega, by omega, rfl, by rw [if_pos rfl, <- hsn]; rfl⟩⟩, by omega⟩
    · unfold rvC at hsn
      repeat (first | simp only [go_sem, hd', i0, i1, i2, i7, i8, i10, i9, iH, iL, iO, hxt, hlen, N0, hsn, hrl, rvC] | simp (disch := first | exact oa | fail) only [AX, Int.reduceToNat, Int.reducePow, Nat.reducePow, hd', i0, i1, i2, i7, i8, i10, i9, iH, iL, iO, hxt, hlen, N0, hsn, hrl, rvC] | refine wki ?_ | refine wqn ?_ | refine vpl 16 [] [([0, 1, 2, 3, 4, 5, 6, 7, 8, 10, 11, 12, 13, 14, 15, 16], some (9, [0, 1, 10, 11, 12, 13, 14, 15, 16])), ([], some (17, [0, 1])), ([18, 19], some (20, [1])), ([21, 22], some (23, [])), ([], none)] ?_ | refine vf_of (by first | exact a) ?_)
      exact ⟨⟨(by repeat (first | exact Kp.refl | exact iU | refine Kp.trans ?_ iU | refine Kp.put ?_ | refine Kp.setH ?_ | refine Kp.newset ?_ | refine Kp.set rfl ?_ | refine Kp.set (by assumption) ?_ | refine Kp.new ?_ | refine Kp.grow rfl ?_ | refine Kp.frzd rfl ?_ | refine Kp.ins rfl ?_)), iN, ign, igl, i + 1, rfl, by omega, .inr ⟨g3, by omega, hg3, rfl, by rw [if_pos rfl]⟩⟩, by omega⟩
end
end Go.Proofs.YticocojomlfhgaaGreatDoor
