/- Part 11 of the proof: the evaluator, contracts of functions and their plain laws (joined by program). No condition. -/
import Derived.Test.YticocojomlfhgaaGreatDoorPart10
set_option linter.unusedVariables false
set_option linter.unusedSimpArgs false
set_option maxRecDepth 100000
set_option maxHeartbeats 4000000
namespace Go.Proofs.YticocojomlfhgaaGreatDoor
open Go.Ev
def letP (es : List Ent) (t x : List UInt8) (p : Nat) : Int × List Ent :=
  if nameP t = false then (6, es) else if (parseP x).1 = 0 then setP es t p (parseP x).2.length (rvsC (parseP x).2) else ((parseP x).1, es)
theorem letP_ok {es : List Ent} {t x : List UInt8} {p : Nat} (hs : Srt es) (hl : es.length <= 16) (hp : PosAt es t p) : Srt (letP es t x p).2 /\ (letP es t x p).2.length <= 16 := by
  unfold letP
  split
  · exact ⟨hs, hl⟩
  · split
    · exact setP_ok hs hl hp
    · exact ⟨hs, hl⟩
section
variable {ops : Array Oper} {l : List Oper} {dst : Option Nat} {st : St} {Q : St -> Prop} {d g p : Nat} {es : List Ent} {t : List UInt8} {D : Int}
theorem sess_Let_is {x : List UInt8} (ht : t.length <= 1048576) (hx : x.length <= 100000) (h16 : es.length <= 16) (hp : PosAt es t p) (h : SessR st d g es D)
    (k : ∀ st', Keep d st st' -> SessR st' d g (letP es t x p).2 D -> WO CX false ops l (st'.putO dst (.sv (.int .i64 (letP es t x p).1))) Q) :
    WN CX ops l dst st Q 18 [.ptr d g 0, .sv (.str (bs t)), .sv (.str (bs x))] := by
  unfold letP at k
  cases hn : nameP t with
  | false =>
    rw [hn, if_pos rfl] at k
    exact sess_Let_name ht hn h k
  | true =>
    rw [hn, if_neg (by simp)] at k
    have nm := sess_Name t ht
    rw [hn] at nm
    have hP := data_Parse x hx
    have hz : ∀ q ∈ (parseP x).2, szR q 500 := parse_sz
    have hd' : 2000000 <= d := h.ob
    generalize parseP x = r at *
    obtain ⟨e, qs⟩ := r
    have hc : qs.length <= 256 -> Go.Ev.Fn CX 33 [.sl qs.length (rvsC qs)] (.sl qs.length (rvsC qs)) := fun hm => sess_copied (rvsC_row (L := 500) qs hz) (by omega) (by omega) (by omega)
    dsimp only at k
    refine wni Tryz.f18 ?_; unfold Tryz.f18; simp only [Option.get!_some]
    by_cases he : e = 0
    · subst he
      rw [if_pos rfl] at k
      repeat (first | simp only [go_sem, hd', Bool.not_true] | simp (disch := first | exact oa | fail) only [AX, Int.reduceToNat, Int.reducePow, Nat.reducePow, hd', Bool.not_true] | refine wki ?_ | refine wqn ?_ | refine vf_of (by first | exact nm | exact hP) ?_)
      refine sess_Set_is ht h16 hp hc (h.of rfl (fun _ => rfl) (Nat.le_refl _)) ?_
      intro s1 hk hs1
      repeat (first | simp only [go_sem] | simp (disch := first | exact oa | fail) only [AX, Int.reduceToNat, Int.reducePow, Nat.reducePow] | refine wki ?_ | refine wqn ?_)
      exact k _ (keep_of (by repeat (first | exact Kp.refl | exact hk.kp | refine Kp.trans ?_ hk.kp | refine Kp.put ?_ | refine Kp.setH ?_ | refine Kp.newset ?_ | refine Kp.set rfl ?_ | refine Kp.set (by assumption) ?_ | refine Kp.new ?_ | refine Kp.grow rfl ?_ | refine Kp.frzd rfl ?_ | refine Kp.ins rfl ?_))) (hs1.of rfl (fun _ => rfl) (Nat.le_refl _))
    · rw [if_neg he] at k
      repeat (first | simp only [go_sem, hd', Bool.not_true] | simp (disch := first | exact oa | fail) only [AX, Int.reduceToNat, Int.reducePow, Nat.reducePow, hd', Bool.not_true] | refine wki ?_ | refine wqn ?_ | refine vf_of (by first | exact nm | exact hP) ?_)
      exact k _ (keep_of (by repeat (first | exact Kp.refl | refine Kp.put ?_ | refine Kp.setH ?_ | refine Kp.newset ?_ | refine Kp.set rfl ?_ | refine Kp.set (by assumption) ?_ | refine Kp.new ?_ | refine Kp.grow rfl ?_ | refine Kp.frzd rfl ?_ | refine Kp.ins rfl ?_))) (h.of rfl (fun _ => rfl) (Nat.le_refl _))
theorem doc_Let_is {x : List UInt8} (hx : x.length <= 100000) (h16 : es.length <= 16) (hp : PosAt es t p) (h : SessD st d g es D)
    (k : ∀ st', KeepT TD d st st' -> SessD st' d g (letP es t x p).2 D -> WO CX false ops l (st'.putO dst (.sv (.int .i64 (letP es t x p).1))) Q) :
    WN CX ops l dst st Q 25 [.ptr d g 0, .sv (.str (bs t)), .sv (.str (bs x))] := by
  unfold letP at k
  have nm := ref22_Name t
  have hP := ref16_Parse x hx
  have hz : ∀ q ∈ (parseP x).2, szR q 500 := parse_sz
  have hd' : 2000000 <= d := h.ob
  generalize parseP x = r at *
  obtain ⟨e, qs⟩ := r
  have hc := rvsC_row (L := 500) qs hz
  dsimp only at k
  refine wni Tryz.f25 ?_; unfold Tryz.f25; simp only [Option.get!_some]
  cases hn : nameP t with
  | false =>
    rw [hn, if_pos rfl] at k
    rw [hn] at nm
    repeat (first | simp only [go_sem, hd', Bool.not_false] | simp (disch := first | exact oa | fail) only [AX, Int.reduceToNat, Int.reducePow, Nat.reducePow, hd', Bool.not_false] | refine wki ?_ | refine wqn ?_ | refine vf_of (by first | exact nm) ?_)
    exact k _ (keep_of (by repeat (first | exact Kp.refl | refine Kp.put ?_ | refine Kp.setH ?_ | refine Kp.newset ?_ | refine Kp.set rfl ?_ | refine Kp.set (by assumption) ?_ | refine Kp.new ?_ | refine Kp.grow rfl ?_ | refine Kp.frzd rfl ?_ | refine Kp.ins rfl ?_))) (h.same rfl rfl rfl)
  | true =>
    rw [hn, if_neg (by simp)] at k
    rw [hn] at nm
    by_cases he : e = 0
    · subst he
      rw [if_pos rfl] at k
      have e0 : (((0 : Nat) : Int) != 0) = false := rfl
      repeat (first | simp only [go_sem, hd', Bool.not_true, e0] | simp (disch := first | exact oa | fail) only [AX, Int.reduceToNat, Int.reducePow, Nat.reducePow, hd', Bool.not_true, e0] | refine wki ?_ | refine wqn ?_ | refine vf_of (by first | exact nm | exact hP) ?_)
      refine doc_Set_is hc (by omega) (by omega) h16 hp (h.same rfl rfl rfl) ?_
      intro s1 hk hs1
      repeat (first | simp only [go_sem] | simp (disch := first | exact oa | fail) only [AX, Int.reduceToNat, Int.reducePow, Nat.reducePow] | refine wki ?_ | refine wqn ?_)
      exact k _ (keep_of (by repeat (first | exact Kp.refl | exact hk.kp | refine Kp.trans ?_ hk.kp | refine Kp.put ?_ | refine Kp.setH ?_ | refine Kp.newset ?_ | refine Kp.set rfl ?_ | refine Kp.set (by assumption) ?_ | refine Kp.new ?_ | refine Kp.grow rfl ?_ | refine Kp.frzd rfl ?_ | refine Kp.ins rfl ?_))) (hs1.same rfl rfl rfl)
    · rw [if_neg he] at k
      have e0 : ((e : Int) != 0) = true := by rw [bne_iff_ne]; omega
      repeat (first | simp only [go_sem, hd', Bool.not_true, e0] | simp (disch := first | exact oa | fail) only [AX, Int.reduceToNat, Int.reducePow, Nat.reducePow, hd', Bool.not_true, e0] | refine wki ?_ | refine wqn ?_ | refine vf_of (by first | exact nm | exact hP) ?_)
      exact k _ (keep_of (by repeat (first | exact Kp.refl | refine Kp.put ?_ | refine Kp.setH ?_ | refine Kp.newset ?_ | refine Kp.set rfl ?_ | refine Kp.set (by assumption) ?_ | refine Kp.new ?_ | refine Kp.grow rfl ?_ | refine Kp.frzd rfl ?_ | refine Kp.ins rfl ?_))) (h.same rfl rfl rfl)
end
end Go.Proofs.YticocojomlfhgaaGreatDoor
set_option maxHeartbeats 4000000
namespace Go.Proofs.YticocojomlfhgaaGreatDoor
open Go.Ev
theorem ref2_RatsU {l : List Rat} {cs ds : List SV} {L M : Nat} (h1 : RowC cs l L) (h2 : RowC ds l M) (hL : 1 <= L) (hM : 1 <= M) (hLM : L + M <= 8388608) (hl : l.length <= 100000) :
    Go.Ev.Fn CX 13 [.sl l.length cs, .sl l.length ds] (.bool true) := by
  have la := row_len h1
  have lb := row_len h2
  have at1 := fun {i : Nat} (hi : i < l.length) => row_at (i := i) h1 hi
  have at2 := fun {i : Nat} (hi : i < l.length) => row_at (i := i) h2 hi
  refine fni Tryz.f13 ?_; unfold Tryz.f13; simp only [Option.get!_some]
  repeat (first | simp only [go_sem] | simp (disch := first | exact oa | fail) only [AX, Int.reduceToNat, Int.reducePow, Nat.reducePow] | refine wki ?_ | refine wqn ?_ | refine vpd 6 [] ?_)
  refine vp_loop_inv (fun s => s.tmp 0 = .sv (.sl l.length cs) /\ s.tmp 1 = .sv (.sl l.length ds) /\ ∃ i : Nat, s.tmp 5 = .sv (.int .i64 (i : Int)) /\ i <= l.length) (fun s => match s.tmp 5 with | .sv (.int _ i) => l.length - i.toNat | _ => 0) ⟨rfl, rfl, 0, rfl, by omega⟩ ?_
  rintro s ⟨i0, i1, i, i5, hi⟩
  by_cases hend : i = l.length
  · subst hend
    repeat (first | simp only [go_sem, i0, i1, i5] | simp (disch := first | exact oa | fail) only [AX, Int.reduceToNat, Int.reducePow, Nat.reducePow, i0, i1, i5] | refine wki ?_ | refine wqn ?_ | refine vpd 6 [] ?_)
  · obtain ⟨sx, nx, dx, rx, g1, r1⟩ := at1 (i := i) (by omega)
    obtain ⟨sy, ny, dy, ry, g2, r2⟩ := at2 (i := i) (by omega)
    have sm := ref2_Same r1 r2 hL hM hLM
    rw [decide_eq_true rfl] at sm
    clear at1 at2 r1 r2
    repeat (first | simp only [go_sem, i0, i1, i5, g1, g2, la, lb, Bool.not_true] | simp (disch := first | exact oa | fail) only [AX, Int.reduceToNat, Int.reducePow, Nat.reducePow, i0, i1, i5, g1, g2, la, lb, Bool.not_true] | refine wki ?_ | refine wqn ?_ | refine vpd 6 [] ?_ | refine vf_of (by first | exact sm) ?_)
    exact ⟨⟨i + 1, rfl, by omega⟩, by omega⟩
def Good (es : List Ent) : Prop := ∀ e ∈ es, ∃ ql : List Rat, e.2.1 = ql.length /\ e.2.2 = rvsC ql /\ ql.length <= 256 /\ ∀ q ∈ ql, szR q 500
theorem good_nil : Good [] := fun _ h => by cases h
theorem good_at {es : List Ent} {i : Nat} (h : Good es) (hi : i < es.length) : ∃ ql : List Rat, (es.getD i default).2.1 = ql.length /\ (es.getD i default).2.2 = rvsC ql /\ ql.length <= 256 /\ ∀ q ∈ ql, szR q 500 := by
  refine h _ ?_
  rw [List.getD_eq_getElem?_getD, List.getElem?_eq_getElem hi]
  exact List.getElem_mem _
theorem set_good {es : List Ent} {t : List UInt8} {p : Nat} {ql : List Rat} (h : Good es) (hz : ∀ q ∈ ql, szR q 500) : Good (setP es t p ql.length (rvsC ql)).2 := by
  unfold setP
  split
  · exact h
  · split
    · exact h
    · rename_i h7
      have hm : ql.length <= 256 := by
        have : ¬ 256 < ql.length := fun e => h7 (.inl e)
        omega
      split
      · intro e he
        rcases List.mem_or_eq_of_mem_set he with he | rfl
        · exact h e he
        · exact ⟨ql, rfl, rfl, hm, hz⟩
      · intro e he
        rcases List.mem_append.1 he with he | he
        · exact h e (List.mem_of_mem_take he)
        · rcases List.mem_cons.1 he with rfl | he
          · exact ⟨ql, rfl, rfl, hm, hz⟩
          · exact h e (List.mem_of_mem_drop he)
theorem let_good {es : List Ent} {t x : List UInt8} {p : Nat} (h : Good es) : Good (letP es t x p).2 := by
  unfold letP
  split
  · exact h
  · split
    · exact set_good h parse_sz
    · exact h
theorem drop_good {es : List Ent} {t : List UInt8} {p : Nat} (h : Good es) : Good (dropP es t p).2 := by
  unfold dropP
  split
  · intro e he
    rcases List.mem_append.1 he with he | he
    · exact h e (List.mem_of_mem_take he)
    · exact h e (List.mem_of_mem_drop he)
  · exact h
theorem at_pos {es : List Ent} {i : Nat} (hs : Srt es) (hi : i < es.length) : PosAt es (es.getD i default).1 i /\ isAt es (es.getD i default).1 i = true := by
  have g : ∀ a b : Nat, a < b -> b < es.length -> Lib.compareBytes (es.getD a default).1 (es.getD b default).1 < 0 := fun a b h1 h2 => by
    have := List.pairwise_iff_getElem.1 hs a b (by omega) h2 h1
    rw [List.getD_eq_getElem?_getD, List.getElem?_eq_getElem (show a < es.length by omega), List.getD_eq_getElem?_getD, List.getElem?_eq_getElem h2]
    exact this
  refine ⟨⟨by omega, fun k hk => g k i hk hi, fun k h1 h2 => ?_⟩, ?_⟩
  · unfold cmpAt
    rcases Nat.eq_or_lt_of_le h1 with rfl | h
    · rw [cb_self]
      omega
    · have := g i k h h2
      rw [cb_swap (es.getD i default).1 (es.getD k default).1]
      omega
  · unfold isAt cmpAt
    rw [decide_eq_true hi, cb_self]
    rfl
section
variable {ops : Array Oper} {l : List Oper} {dst : Option Nat} {st : St} {Q : St -> Prop} {d g dx gx p : Nat} {es : List Ent} {t : List UInt8} {D : Int}
theorem alike_is (hne : dx ≠ d) (hG : Good es) (h16 : es.length <= 16) (hs : Srt es) (hS : SessR st d g es D) (hX : SessD st dx gx es D)
    (k : ∀ st', Keep d st st' -> SessR st' d g es D -> SessD st' dx gx es D -> WO CX false ops l (st'.putO dst (.sv (.bool true))) Q) :
    WN CX ops l dst st Q 22 [.ptr d g 0, .ptr dx gx 0] := by
  have hd' : 2000000 <= d := hS.ob
  have hdx : 2000000 <= dx := hX.ob
  have hpl : plV (.ptr d g 0) = true := pl_ob hS.ob
  have hpx : plV (.ptr dx gx 0) = true := pl_ob hX.ob
  refine wni Tryz.f22 ?_; unfold Tryz.f22; simp only [Option.get!_some]
  repeat (first | simp only [go_sem, hd', hdx] | simp (disch := first | exact oa | fail) only [AX, Int.reduceToNat, Int.reducePow, Nat.reducePow, hd', hdx] | refine wki ?_ | refine wqn ?_ | refine vpd 2 [] ?_ | refine vpd 8 [7, 67] ?_)
  refine sess_Names (by omega) (hS.of rfl (fun _ => rfl) (Nat.le_refl _)) ?_
  intro s2 tv hk hs2 htv
  have hx2 : SessD s2 dx gx es D := by
    refine SessD.keep ?_ hk.kp hne
    exact hX.same rfl rfl rfl
  have j0 : s2.tmp 0 = .ptr d g 0 := (hk.tmp 0 (by simp only [tmp_put, reduceIte, Nat.reduceEqDiff]; exact hpl)).trans rfl
  have j1 : s2.tmp 1 = .ptr dx gx 0 := (hk.tmp 1 (by simp only [tmp_put, reduceIte, Nat.reduceEqDiff]; exact hpx)).trans rfl
  have j67 : s2.tmp 67 = .undef := (hk.tmp 67 rfl).trans rfl
  have hup : Kp TP d (st.enter [.ptr d g 0, .ptr dx gx 0]) s2 := (by repeat (first | exact Kp.refl | exact hk.kp | refine Kp.trans ?_ hk.kp | refine Kp.put ?_ | refine Kp.setH ?_ | refine Kp.newset ?_ | refine Kp.set rfl ?_ | refine Kp.set (by assumption) ?_ | refine Kp.new ?_ | refine Kp.grow rfl ?_ | refine Kp.frzd rfl ?_ | refine Kp.ins rfl ?_))
  have hob : ∃ te, s2.hob d g = some [te, .sv (.int .i64 D)] := by
    rcases hs2.row with ⟨_, h⟩ | ⟨g1, _, h, _⟩
    · exact ⟨_, h⟩
    · exact ⟨_, h⟩
  obtain ⟨te, hob⟩ := hob
  have hS0 := hs2
  have hX0 := hx2
  clear hS hX hk
  rcases htv with ⟨rfl, rfl⟩ | ⟨g', hg0, rfl, hN⟩
  · obtain ⟨_, hrow⟩ := hx2
    rcases hrow with ⟨_, ho⟩ | ⟨dn, gn, dl, gl, en, el, gn1, gl1, ho, hNx, hLx⟩
    all_goals
      repeat (first | simp only [go_sem, hd', hdx, j0, j1, ho, List.length_nil] | simp (disch := first | exact oa | fail) only [AX, Int.reduceToNat, Int.reducePow, Nat.reducePow, hd', hdx, j0, j1, ho, List.length_nil] | refine wki ?_ | refine wqn ?_ | refine vpd 2 [] ?_ | refine vpd 8 [7, 67] ?_)
      refine wli Tryz.f30 (.int .i64 D) ?_ ?_
      · unfold Tryz.f30
        simp only [Option.get!_some]
        simp only [go_sem, hob, hd']
      repeat (first | simp only [go_sem, hd', hdx, j0, j1, ho, List.length_nil] | simp (disch := first | exact oa | fail) only [AX, Int.reduceToNat, Int.reducePow, Nat.reducePow, hd', hdx, j0, j1, ho, List.length_nil] | refine wki ?_ | refine wqn ?_ | refine vpd 2 [] ?_ | refine vpd 8 [7, 67] ?_)
      refine vp_loop_fam (fun n s => n = 0 /\ s.tmp 0 = .ptr d g 0 /\ s.tmp 1 = .ptr dx gx 0 /\ s.tmp 5 = .nil /\ s.tmp 6 = .sv (.int .i64 0) /\ Kp TP d (st.enter [.ptr d g 0, .ptr dx gx 0]) s /\ SessR s d g [] D /\ SessD s dx gx [] D) 0 ⟨rfl, j0, j1, rfl, rfl, (by repeat (first | exact Kp.refl | exact hup | refine Kp.trans ?_ hup | refine Kp.put ?_ | refine Kp.setH ?_ | refine Kp.newset ?_ | refine Kp.set rfl ?_ | refine Kp.set (by assumption) ?_ | refine Kp.new ?_ | refine Kp.grow rfl ?_ | refine Kp.frzd rfl ?_ | refine Kp.ins rfl ?_)), hS0.of rfl (fun _ => rfl) (Nat.le_refl _), hX0.same rfl rfl rfl⟩ ?_
      rintro n s ⟨-, i0, i1, i5, i6, iU, iS, iX⟩
      repeat (first | simp only [go_sem, i0, i1, i5, i6, hd', hdx] | simp (disch := first | exact oa | fail) only [AX, Int.reduceToNat, Int.reducePow, Nat.reducePow, i0, i1, i5, i6, hd', hdx] | refine wki ?_ | refine wqn ?_ | refine vpd 2 [] ?_ | refine vpd 8 [7, 67] ?_)
      exact k _ (keep_of (by repeat (first | exact Kp.refl | exact iU | refine Kp.trans ?_ iU | refine Kp.put ?_ | refine Kp.setH ?_ | refine Kp.newset ?_ | refine Kp.set rfl ?_ | refine Kp.set (by assumption) ?_ | refine Kp.new ?_ | refine Kp.grow rfl ?_ | refine Kp.frzd rfl ?_ | refine Kp.ins rfl ?_))) (iS.of rfl (fun _ => rfl) (Nat.le_refl _)) (iX.same rfl rfl rfl)
  · obtain ⟨_, hrow⟩ := hx2
    rcases hrow with ⟨rfl, _⟩ | ⟨dn, gn, dl, gl, en, el, gn1, gl1, ho, hNx, hLx⟩
    · simp at hg0
    have hnl := namC_len es
    have hll := rowL_len es
    repeat (first | simp only [go_sem, hd', hdx, j0, j1, ho, hNx, hLx, hN] | simp (disch := first | exact oa | fail) only [AX, Int.reduceToNat, Int.reducePow, Nat.reducePow, hd', hdx, j0, j1, ho, hNx, hLx, hN] | refine wki ?_ | refine wqn ?_ | refine vpd 2 [] ?_ | refine vpd 8 [7, 67] ?_)
    refine wli Tryz.f30 (.int .i64 D) ?_ ?_
    · unfold Tryz.f30
      simp only [Option.get!_some]
      simp only [go_sem, hob, hd']
    repeat (first | simp only [go_sem, hd', hdx, j0, j1, ho] | simp (disch := first | exact oa | fail) only [AX, Int.reduceToNat, Int.reducePow, Nat.reducePow, hd', hdx, j0, j1, ho] | refine wki ?_ | refine wqn ?_ | refine vpd 2 [] ?_ | refine vpd 8 [7, 67] ?_)
    refine vp_loop_inv (fun s => s.tmp 0 = .ptr d g 0 /\ s.tmp 1 = .ptr dx gx 0 /\ s.tmp 5 = .ref 21 g' 1 0 es.length /\ NR (s.tmp 67) /\ s.obj 21 g' = some (namC es) /\ Kp TP d (st.enter [.ptr d g 0, .ptr dx gx 0]) s /\ SessR s d g es D /\
        s.hob dx gx = some [.ref dn gn 1 0 es.length, .ref dl gl 1 0 es.length, .sv (.int .i64 D)] /\ s.obj dn gn = some (namC es) /\ s.obj dl gl = some (rowL es) /\ gn < s.gen dn /\ gl < s.gen dl /\ ∃ i : Nat, s.tmp 6 = .sv (.int .i64 (i : Int)) /\ i <= es.length)
      (fun s => match s.tmp 6 with | .sv (.int _ i) => es.length - i.toNat | _ => 0) ?_ ?_
    · exact ⟨j0, j1, rfl, .inl j67, hN, (by repeat (first | exact Kp.refl | exact hup | refine Kp.trans ?_ hup | refine Kp.put ?_ | refine Kp.setH ?_ | refine Kp.newset ?_ | refine Kp.set rfl ?_ | refine Kp.set (by assumption) ?_ | refine Kp.new ?_ | refine Kp.grow rfl ?_ | refine Kp.frzd rfl ?_ | refine Kp.ins rfl ?_)), hS0.of rfl (fun _ => rfl) (Nat.le_refl _), ho, hNx, hLx, gn1, gl1, 0, rfl, by omega⟩
    clear hup hS0 hX0 ho hNx hLx gn1 gl1 j0 j1 hN hob hs2 j67
    rintro s ⟨i0, i1, i5, i67, iN, iU, iS, io, iNx, iLx, ign, igl, i, i6, hi⟩
    have dn1 : decide (2000000 <= dn) = false := decide_eq_false (by omega)
    have dl1 : decide (2000000 <= dl) = false := decide_eq_false (by omega)
    by_cases hend : i = es.length
    · subst hend
      repeat (first | simp only [go_sem, i0, i1, i5, i6, hd', hdx] | simp (disch := first | exact oa | fail) only [AX, Int.reduceToNat, Int.reducePow, Nat.reducePow, i0, i1, i5, i6, hd', hdx] | refine wki ?_ | refine wqn ?_ | refine vpd 2 [] ?_ | refine vpd 8 [7, 67] ?_)
      exact k _ (keep_of (by repeat (first | exact Kp.refl | exact iU | refine Kp.trans ?_ iU | refine Kp.put ?_ | refine Kp.setH ?_ | refine Kp.newset ?_ | refine Kp.set rfl ?_ | refine Kp.set (by assumption) ?_ | refine Kp.new ?_ | refine Kp.grow rfl ?_ | refine Kp.frzd rfl ?_ | refine Kp.ins rfl ?_))) (iS.of rfl (fun _ => rfl) (Nat.le_refl _)) ⟨hdx, .inr ⟨dn, gn, dl, gl, en, el, ign, igl, io, iNx, iLx⟩⟩
    · obtain ⟨hp, hat⟩ := at_pos hs (i := i) (by omega)
      obtain ⟨ql, e1, e2, hm, hz⟩ := good_at hG (i := i) (by omega)
      have x1 := nam_at (es := es) (k := i) (by omega)
      have x2 := rowL_at (es := es) (k := i) (by omega)
      have hrow := rvsC_row (L := 500) ql hz
      have hc : Go.Ev.Fn CX 33 [.sl (es.getD i default).2.1 (es.getD i default).2.2] (.sl (es.getD i default).2.1 (rvsC ql)) := by
        rw [e1, e2]
        exact sess_copied hrow (by omega) (by omega) (by omega)
      have hR := ref2_RatsU hrow hrow (by omega) (by omega) (by omega) (by omega)
      repeat (first | simp only [go_sem, i0, i1, i5, i6, hd', hdx, iN, hnl, x1, List.head?_cons] | simp (disch := first | exact oa | fail) only [AX, Int.reduceToNat, Int.reducePow, Nat.reducePow, i0, i1, i5, i6, hd', hdx, iN, hnl, x1, List.head?_cons] | refine wki ?_ | refine wqn ?_ | refine vpd 2 [] ?_ | refine vpd 8 [7, 67] ?_)
      refine sess_Get_atS hp (by omega) hat hc (iS.of rfl (fun _ => rfl) (Nat.le_refl _)) ?_
      intro s3 hk
      rw [e1]
      rw [e1, e2] at x2
      have hob3 : ∀ a b, s3.obj a b = s.obj a b := hk.obj
      have hhob3 : s3.hob = s.hob := hk.hob
      have hgen3 : s3.gen = s.gen := hk.gen
      have m0 : s3.tmp 0 = .ptr d g 0 := (hk.tmp 0).trans i0
      have m1 : s3.tmp 1 = .ptr dx gx 0 := (hk.tmp 1).trans i1
      have m5 : s3.tmp 5 = .ref 21 g' 1 0 es.length := (hk.tmp 5).trans i5
      have m6 : s3.tmp 6 = .sv (.int .i64 (i : Int)) := (hk.tmp 6).trans i6
      have m67 : NR (s3.tmp 67) := by rw [hk.tmp 67]; exact i67
      have iU3 : Kp TP d (st.enter [.ptr d g 0, .ptr dx gx 0]) s3 := by
        refine Kp.trans ?_ (Same.keep (T := TP) (d := d) hk).kp
        exact (by repeat (first | exact Kp.refl | exact iU | refine Kp.trans ?_ iU | refine Kp.put ?_ | refine Kp.setH ?_ | refine Kp.newset ?_ | refine Kp.set rfl ?_ | refine Kp.set (by assumption) ?_ | refine Kp.new ?_ | refine Kp.grow rfl ?_ | refine Kp.frzd rfl ?_ | refine Kp.ins rfl ?_))
      have iS3 : SessR s3 d g es D := iS.of (by rw [hhob3]) (fun _ => hob3 _ _) (by rw [hgen3]; exact Nat.le_refl _)
      clear iS iU hk
      generalize (es.getD i default).1 = tt at *
      rcases m67 with m67 | ⟨x67, m67⟩
      all_goals
        repeat (first | simp only [go_sem, m0, m1, m5, m6, m67, hob3, hhob3, iN, iNx, iLx, io, hd', hdx, hnl, hll, x1, x2, List.head?_cons, bs_list, beq_self_eq_true, Bool.not_true, dn1, dl1] | simp (disch := first | exact oa | fail) only [AX, Int.reduceToNat, Int.reducePow, Nat.reducePow, m0, m1, m5, m6, m67, hob3, hhob3, iN, iNx, iLx, io, hd', hdx, hnl, hll, x1, x2, List.head?_cons, bs_list, beq_self_eq_true, Bool.not_true, dn1, dl1] | refine wki ?_ | refine wqn ?_ | refine vpd 2 [] ?_ | refine vpd 8 [7, 67] ?_ | refine vf_of (by first | exact hR) ?_)
        exact ⟨⟨.inr ⟨_, rfl⟩, (by repeat (first | exact Kp.refl | exact iU3 | refine Kp.trans ?_ iU3 | refine Kp.put ?_ | refine Kp.setH ?_ | refine Kp.newset ?_ | refine Kp.set rfl ?_ | refine Kp.set (by assumption) ?_ | refine Kp.new ?_ | refine Kp.grow rfl ?_ | refine Kp.frzd rfl ?_ | refine Kp.ins rfl ?_)), iS3.of rfl (fun _ => rfl) (Nat.le_refl _), by rw [hgen3]; exact ign, by rw [hgen3]; exact igl, i + 1, rfl, by omega⟩, by omega⟩
end
end Go.Proofs.YticocojomlfhgaaGreatDoor
set_option maxHeartbeats 4000000
namespace Go.Proofs.YticocojomlfhgaaGreatDoor
open Go.Ev
theorem keep2 {st b s1 b2 s2 s3 : St} {d dx : Nat} (h1 : Kp TP d b s1) (hb : b.up = (st.enter []).up) (h2 : Kp TD dx b2 s2) (hb2 : b2.up = s1.up) (hs : s3.up = s2.up) : ∀ t, plT TP (st.tmp t) = true -> plT TD (st.tmp t) = true -> s3.leave.tmp t = st.tmp t := fun t p1 p2 => by
  have e1 : b.up (2 * t) = st.tmp t := by rw [hb, up_even]
  have e2 : s1.up (2 * t) = st.tmp t := by rw [h1.up (2 * t) (by rw [e1]; exact p1), e1]
  rw [tmp_leave, hs, h2.up (2 * t) (by rw [hb2, e2]; exact p2), hb2, e2]
theorem same_nat : ∀ xs : List Nat, sameL (xs.map limb) (xs.map limb) = true
  | [] => rfl
  | x :: xs => by
    show (sameSV (limb x) (limb x) && sameL (xs.map limb) (xs.map limb)) = true
    rw [same_nat xs, Bool.and_true]
    simp [limb, sameSV]
theorem same_row {L : Nat} : ∀ {l : List Rat} {cs : List SV}, RowC cs l L -> sameL cs cs = true
  | [], cs, h => by
    have h : cs = [] := h
    subst h
    rfl
  | q :: l, cs, h => by
    obtain ⟨s, n, d, rest, rfl, _, h2⟩ := h
    have := same_row h2
    have hn := same_nat n
    have hd := same_nat d
    simp only [sameL, sameSV, decide_true, Bool.true_and, hn, hd, this]
theorem new5_obj {st s : St} {cs : List SV} (h2 : s.obj = fun d' g' => if d' = 5 /\ g' = st.gen 5 then some cs else st.obj d' g') : s.obj 5 (st.gen 5) = some cs := by
  rw [h2]
  exact if_pos ⟨rfl, rfl⟩
theorem SessD.new5 {st s : St} {d g : Nat} {es : List Ent} {D : Int} {cs : List SV} (h : SessD st d g es D) (h1 : s.hob = st.hob) (h2 : s.obj = fun d' g' => if d' = 5 /\ g' = st.gen 5 then some cs else st.obj d' g') (h3 : s.gen = fun n => if n = 5 then st.gen 5 + 1 else st.gen n) : SessD s d g es D := by
  obtain ⟨a, hrow⟩ := h
  refine ⟨a, ?_⟩
  rw [h1, h2, h3]
  rcases hrow with h | ⟨dn, gn, dl, gl, en, el, gn1, gl1, ho, hN, hL⟩
  · exact .inl h
  · have n5 : ¬ (dn = 5 /\ gn = st.gen 5) := fun e => by omega
    have l5 : ¬ (dl = 5 /\ gl = st.gen 5) := fun e => by omega
    refine .inr ⟨dn, gn, dl, gl, en, el, ?_, ?_, ho, (if_neg n5).trans hN, (if_neg l5).trans hL⟩
    · show gn < if dn = 5 then st.gen 5 + 1 else st.gen dn
      rw [if_neg (by omega)]
      exact gn1
    · show gl < if dl = 5 then st.gen 5 + 1 else st.gen dl
      rw [if_neg (by omega)]
      exact gl1
section
variable {ops : Array Oper} {l : List Oper} {dst : Option Nat} {st : St} {Q : St -> Prop} {d g dx gx p : Nat} {es : List Ent} {t : List UInt8} {D : Int}
theorem act_is {a : ActI} (hne : dx ≠ d) (ht : a.t.length <= 60) (hx : a.x.length <= 300) (hpl : a.ps.length <= 300) (hrow : RowC (ratsC a.ps) (a.ps.map InR.q) 3) (hG : Good es) (h16 : es.length <= 16) (hs : Srt es) (hS : SessR st d g es D) (hX : SessD st dx gx es D)
    (k : ∀ st' es' D', (∀ t, plT TP (st.tmp t) = true -> plT TD (st.tmp t) = true -> st'.tmp t = st.tmp t) -> SessR st' d g es' D' -> SessD st' dx gx es' D' -> Srt es' -> es'.length <= 16 -> Good es' -> WO CX false ops l (st'.putO dst (.sv (.bool true))) Q) :
    WN CX ops l dst st Q 21 [.ptr d g 0, .ptr dx gx 0, .sv (.agg a.cells)] := by
  have hd' : 2000000 <= d := hS.ob
  have hdx : 2000000 <= dx := hX.ob
  have hpd : plV (.ptr d g 0) = true := pl_ob hS.ob
  have hpx : plV (.ptr dx gx 0) = true := pl_ob hX.ob
  obtain ⟨p, hp⟩ := pos_ex hs a.t
  have hce : a.cells = [.int .i64 a.k, .str (bs a.t), .str (bs a.x), .sl (a.ps.map InR.q).length (ratsC a.ps), .int .i64 a.n] := by
    unfold ActI.cells rowV
    rw [List.length_map]
  rw [hce]
  clear hce
  have hz : ∀ q ∈ a.ps.map InR.q, szR q 500 := fun q hq => szR_mono (row_sz (by omega) hrow q hq) (by omega)
  have hql : (a.ps.map InR.q).length <= 300 := by rw [List.length_map]; exact hpl
  generalize ratsC a.ps = cs at *
  generalize a.ps.map InR.q = ql at *
  have hsm := same_row hrow
  have hc : ql.length <= 256 -> Go.Ev.Fn CX 33 [.sl ql.length cs] (.sl ql.length (rvsC ql)) := fun hm => sess_copied hrow (by omega) (by omega) (by omega)
  by_cases k1 : a.k = 1
  · have e1 : (a.k == 1) = true := by rw [k1]; rfl
    refine wni Tryz.f21 ?_; unfold Tryz.f21; simp only [Option.get!_some]
    repeat (first | simp only [go_sem, e1] | simp (disch := first | exact oa | fail) only [AX, Int.reduceToNat, Int.reducePow, Nat.reducePow, e1] | refine wki ?_ | refine wqn ?_ | refine vpl 3 [] [([0, 1, 2, 3, 4, 6, 7, 8, 9, 10], some (5, [6, 7, 8, 9, 10])), ([], some (11, [])), ([12, 13], none)] ?_ | refine vpl 5 [34, 40] [([0, 1, 2, 3, 4, 6, 7, 8, 9, 10], some (5, [6, 7, 8, 9, 10])), ([], some (11, [])), ([12, 13], none)] ?_ | refine vpl 7 [] [([0, 1, 2, 4, 5, 6], some (3, [4, 5, 6])), ([], some (7, [])), ([8, 9], none)] ?_ | refine vpl 13 [] [([0, 1, 2, 4, 5, 6], some (3, [4, 5, 6])), ([], some (7, [])), ([8, 9], none)] ?_)
    refine sess_Let_is (by omega) (by omega) h16 hp (hS.of rfl (fun _ => rfl) (Nat.le_refl _)) ?_
    intro s1 hk hs1
    have hx1 : SessD s1 dx gx es D := by
      refine SessD.keep ?_ hk.kp hne
      exact hX.new5 rfl rfl rfl
    have j1 : s1.tmp 1 = .ptr dx gx 0 := (hk.tmp 1 hpx).trans rfl
    have j5 : s1.tmp 5 = .ptr 5 (st.gen 5) 0 := (hk.tmp 5 rfl).trans rfl
    have j21 : s1.tmp 21 = .ptr dx gx 0 := (hk.tmp 21 hpx).trans rfl
    have j22 : s1.tmp 22 = .ptr 5 (st.gen 5) 1 := (hk.tmp 22 rfl).trans rfl
    have j23 : s1.tmp 23 = .sv (.str (bs a.t)) := (hk.tmp 23 rfl).trans rfl
    have j24 : s1.tmp 24 = .ptr 5 (st.gen 5) 2 := (hk.tmp 24 rfl).trans rfl
    have j25 : s1.tmp 25 = .sv (.str (bs a.x)) := (hk.tmp 25 rfl).trans rfl
    have j55 : s1.obj 5 (st.gen 5) = some [.int .i64 a.k, .str (bs a.t), .str (bs a.x), .sl ql.length cs, .int .i64 a.n] := (hk.obj 5 (st.gen 5) rfl (Nat.lt_succ_self _)).trans (new5_obj rfl)
    repeat (first | simp only [go_sem, j1, j5, j21, j22, j23, j24, j25, j55] | simp (disch := first | exact oa | fail) only [AX, Int.reduceToNat, Int.reducePow, Nat.reducePow, j1, j5, j21, j22, j23, j24, j25, j55] | refine wki ?_ | refine wqn ?_ | refine vpl 3 [] [([0, 1, 2, 3, 4, 6, 7, 8, 9, 10], some (5, [6, 7, 8, 9, 10])), ([], some (11, [])), ([12, 13], none)] ?_ | refine vpl 5 [34, 40] [([0, 1, 2, 3, 4, 6, 7, 8, 9, 10], some (5, [6, 7, 8, 9, 10])), ([], some (11, [])), ([12, 13], none)] ?_ | refine vpl 7 [] [([0, 1, 2, 4, 5, 6], some (3, [4, 5, 6])), ([], some (7, [])), ([8, 9], none)] ?_ | refine vpl 13 [] [([0, 1, 2, 4, 5, 6], some (3, [4, 5, 6])), ([], some (7, [])), ([8, 9], none)] ?_)
    refine doc_Let_is (by omega) h16 hp (hx1.same rfl rfl rfl) ?_
    intro s2 hk2 hx2
    have hs2 : SessR s2 d g (letP es a.t a.x p).2 D := by
      refine SessR.keep ?_ hk2.kp hne.symm
      exact hs1.of rfl (fun _ => rfl) (Nat.le_refl _)
    have m : s2.tmp 20 = .sv (.int .i64 (letP es a.t a.x p).1) := (hk2.tmp 20 rfl).trans rfl
    repeat (first | simp only [go_sem, m, beq_self_eq_true] | simp (disch := first | exact oa | fail) only [AX, Int.reduceToNat, Int.reducePow, Nat.reducePow, m, beq_self_eq_true] | refine wki ?_ | refine wqn ?_ | refine vpl 3 [] [([0, 1, 2, 3, 4, 6, 7, 8, 9, 10], some (5, [6, 7, 8, 9, 10])), ([], some (11, [])), ([12, 13], none)] ?_ | refine vpl 5 [34, 40] [([0, 1, 2, 3, 4, 6, 7, 8, 9, 10], some (5, [6, 7, 8, 9, 10])), ([], some (11, [])), ([12, 13], none)] ?_ | refine vpl 7 [] [([0, 1, 2, 4, 5, 6], some (3, [4, 5, 6])), ([], some (7, [])), ([8, 9], none)] ?_ | refine vpl 13 [] [([0, 1, 2, 4, 5, 6], some (3, [4, 5, 6])), ([], some (7, [])), ([8, 9], none)] ?_)
    exact k _ _ _ (keep2 hk.kp rfl hk2.kp rfl rfl) (hs2.of rfl (fun _ => rfl) (Nat.le_refl _)) (hx2.same rfl rfl rfl) (letP_ok hs h16 hp).1 (letP_ok hs h16 hp).2 (let_good hG)
  by_cases k2 : a.k = 2
  · have e1 : (a.k == 1) = false := beq_eq_false_iff_ne.2 k1
    have e2 : (a.k == 2) = true := by rw [k2]; rfl
    refine wni Tryz.f21 ?_; unfold Tryz.f21; simp only [Option.get!_some]
    repeat (first | simp only [go_sem, e1, e2] | simp (disch := first | exact oa | fail) only [AX, Int.reduceToNat, Int.reducePow, Nat.reducePow, e1, e2] | refine wki ?_ | refine wqn ?_ | refine vpl 3 [] [([0, 1, 2, 3, 4, 6, 7, 8, 9, 10], some (5, [6, 7, 8, 9, 10])), ([], some (11, [])), ([12, 13], none)] ?_ | refine vpl 5 [34, 40] [([0, 1, 2, 3, 4, 6, 7, 8, 9, 10], some (5, [6, 7, 8, 9, 10])), ([], some (11, [])), ([12, 13], none)] ?_ | refine vpl 7 [] [([0, 1, 2, 4, 5, 6], some (3, [4, 5, 6])), ([], some (7, [])), ([8, 9], none)] ?_ | refine vpl 13 [] [([0, 1, 2, 4, 5, 6], some (3, [4, 5, 6])), ([], some (7, [])), ([8, 9], none)] ?_)
    refine sess_Set_is (by omega) h16 hp hc (hS.of rfl (fun _ => rfl) (Nat.le_refl _)) ?_
    intro s1 hk hs1
    have hx1 : SessD s1 dx gx es D := by
      refine SessD.keep ?_ hk.kp hne
      exact hX.new5 rfl rfl rfl
    have j1 : s1.tmp 1 = .ptr dx gx 0 := (hk.tmp 1 hpx).trans rfl
    have j5 : s1.tmp 5 = .ptr 5 (st.gen 5) 0 := (hk.tmp 5 rfl).trans rfl
    have j36 : s1.tmp 36 = .ptr dx gx 0 := (hk.tmp 36 hpx).trans rfl
    have j37 : s1.tmp 37 = .ptr 5 (st.gen 5) 1 := (hk.tmp 37 rfl).trans rfl
    have j38 : s1.tmp 38 = .sv (.str (bs a.t)) := (hk.tmp 38 rfl).trans rfl
    have j39 : s1.tmp 39 = .ptr 5 (st.gen 5) 3 := (hk.tmp 39 rfl).trans rfl
    have j40 : s1.tmp 40 = .sv (.sl ql.length cs) := (hk.tmp 40 rfl).trans rfl
    have j55 : s1.obj 5 (st.gen 5) = some [.int .i64 a.k, .str (bs a.t), .str (bs a.x), .sl ql.length cs, .int .i64 a.n] := (hk.obj 5 (st.gen 5) rfl (Nat.lt_succ_self _)).trans (new5_obj rfl)
    repeat (first | simp only [go_sem, j1, j5, j36, j37, j38, j39, j40, j55, st_sl hsm] | simp (disch := first | exact oa | fail) only [AX, Int.reduceToNat, Int.reducePow, Nat.reducePow, j1, j5, j36, j37, j38, j39, j40, j55, st_sl hsm] | refine wki ?_ | refine wqn ?_ | refine vpl 3 [] [([0, 1, 2, 3, 4, 6, 7, 8, 9, 10], some (5, [6, 7, 8, 9, 10])), ([], some (11, [])), ([12, 13], none)] ?_ | refine vpl 5 [34, 40] [([0, 1, 2, 3, 4, 6, 7, 8, 9, 10], some (5, [6, 7, 8, 9, 10])), ([], some (11, [])), ([12, 13], none)] ?_ | refine vpl 7 [] [([0, 1, 2, 4, 5, 6], some (3, [4, 5, 6])), ([], some (7, [])), ([8, 9], none)] ?_ | refine vpl 13 [] [([0, 1, 2, 4, 5, 6], some (3, [4, 5, 6])), ([], some (7, [])), ([8, 9], none)] ?_)
    refine doc_Set_is hrow (by omega) (by omega) h16 hp (hx1.same rfl rfl rfl) ?_
    intro s2 hk2 hx2
    have hs2 : SessR s2 d g (setP es a.t p ql.length (rvsC ql)).2 D := by
      refine SessR.keep ?_ hk2.kp hne.symm
      exact hs1.of rfl (fun _ => rfl) (Nat.le_refl _)
    have m : s2.tmp 35 = .sv (.int .i64 (setP es a.t p ql.length (rvsC ql)).1) := (hk2.tmp 35 rfl).trans rfl
    repeat (first | simp only [go_sem, m, beq_self_eq_true] | simp (disch := first | exact oa | fail) only [AX, Int.reduceToNat, Int.reducePow, Nat.reducePow, m, beq_self_eq_true] | refine wki ?_ | refine wqn ?_ | refine vpl 3 [] [([0, 1, 2, 3, 4, 6, 7, 8, 9, 10], some (5, [6, 7, 8, 9, 10])), ([], some (11, [])), ([12, 13], none)] ?_ | refine vpl 5 [34, 40] [([0, 1, 2, 3, 4, 6, 7, 8, 9, 10], some (5, [6, 7, 8, 9, 10])), ([], some (11, [])), ([12, 13], none)] ?_ | refine vpl 7 [] [([0, 1, 2, 4, 5, 6], some (3, [4, 5, 6])), ([], some (7, [])), ([8, 9], none)] ?_ | refine vpl 13 [] [([0, 1, 2, 4, 5, 6], some (3, [4, 5, 6])), ([], some (7, [])), ([8, 9], none)] ?_)
    exact k _ _ _ (keep2 hk.kp rfl hk2.kp rfl rfl) (hs2.of rfl (fun _ => rfl) (Nat.le_refl _)) (hx2.same rfl rfl rfl) (setP_ok hs h16 hp).1 (setP_ok hs h16 hp).2 (set_good hG hz)
  by_cases k3 : a.k = 3
  · have e1 : (a.k == 1) = false := beq_eq_false_iff_ne.2 k1
    have e2 : (a.k == 2) = false := beq_eq_false_iff_ne.2 k2
    have e3 : (a.k == 3) = true := by rw [k3]; rfl
    refine wni Tryz.f21 ?_; unfold Tryz.f21; simp only [Option.get!_some]
    repeat (first | simp only [go_sem, e1, e2, e3] | simp (disch := first | exact oa | fail) only [AX, Int.reduceToNat, Int.reducePow, Nat.reducePow, e1, e2, e3] | refine wki ?_ | refine wqn ?_ | refine vpl 3 [] [([0, 1, 2, 3, 4, 6, 7, 8, 9, 10], some (5, [6, 7, 8, 9, 10])), ([], some (11, [])), ([12, 13], none)] ?_ | refine vpl 5 [34, 40] [([0, 1, 2, 3, 4, 6, 7, 8, 9, 10], some (5, [6, 7, 8, 9, 10])), ([], some (11, [])), ([12, 13], none)] ?_ | refine vpl 7 [] [([0, 1, 2, 4, 5, 6], some (3, [4, 5, 6])), ([], some (7, [])), ([8, 9], none)] ?_ | refine vpl 13 [] [([0, 1, 2, 4, 5, 6], some (3, [4, 5, 6])), ([], some (7, [])), ([8, 9], none)] ?_)
    refine sess_Drop_is h16 hp (hS.of rfl (fun _ => rfl) (Nat.le_refl _)) ?_
    intro s1 hk hs1
    have hx1 : SessD s1 dx gx es D := by
      refine SessD.keep ?_ hk.kp hne
      exact hX.new5 rfl rfl rfl
    have j1 : s1.tmp 1 = .ptr dx gx 0 := (hk.tmp 1 hpx).trans rfl
    have j5 : s1.tmp 5 = .ptr 5 (st.gen 5) 0 := (hk.tmp 5 rfl).trans rfl
    have j49 : s1.tmp 49 = .ptr dx gx 0 := (hk.tmp 49 hpx).trans rfl
    have j50 : s1.tmp 50 = .ptr 5 (st.gen 5) 1 := (hk.tmp 50 rfl).trans rfl
    have j51 : s1.tmp 51 = .sv (.str (bs a.t)) := (hk.tmp 51 rfl).trans rfl
    have j55 : s1.obj 5 (st.gen 5) = some [.int .i64 a.k, .str (bs a.t), .str (bs a.x), .sl ql.length cs, .int .i64 a.n] := (hk.obj 5 (st.gen 5) rfl (Nat.lt_succ_self _)).trans (new5_obj rfl)
    repeat (first | simp only [go_sem, j1, j5, j49, j50, j51, j55] | simp (disch := first | exact oa | fail) only [AX, Int.reduceToNat, Int.reducePow, Nat.reducePow, j1, j5, j49, j50, j51, j55] | refine wki ?_ | refine wqn ?_ | refine vpl 3 [] [([0, 1, 2, 3, 4, 6, 7, 8, 9, 10], some (5, [6, 7, 8, 9, 10])), ([], some (11, [])), ([12, 13], none)] ?_ | refine vpl 5 [34, 40] [([0, 1, 2, 3, 4, 6, 7, 8, 9, 10], some (5, [6, 7, 8, 9, 10])), ([], some (11, [])), ([12, 13], none)] ?_ | refine vpl 7 [] [([0, 1, 2, 4, 5, 6], some (3, [4, 5, 6])), ([], some (7, [])), ([8, 9], none)] ?_ | refine vpl 13 [] [([0, 1, 2, 4, 5, 6], some (3, [4, 5, 6])), ([], some (7, [])), ([8, 9], none)] ?_)
    refine doc_Drop_is h16 hp (hx1.same rfl rfl rfl) ?_
    intro s2 hk2 hx2
    have hs2 : SessR s2 d g (dropP es a.t p).2 D := by
      refine SessR.keep ?_ hk2.kp hne.symm
      exact hs1.of rfl (fun _ => rfl) (Nat.le_refl _)
    have m : s2.tmp 48 = .sv (.int .i64 (dropP es a.t p).1) := (hk2.tmp 48 rfl).trans rfl
    repeat (first | simp only [go_sem, m, beq_self_eq_true] | simp (disch := first | exact oa | fail) only [AX, Int.reduceToNat, Int.reducePow, Nat.reducePow, m, beq_self_eq_true] | refine wki ?_ | refine wqn ?_ | refine vpl 3 [] [([0, 1, 2, 3, 4, 6, 7, 8, 9, 10], some (5, [6, 7, 8, 9, 10])), ([], some (11, [])), ([12, 13], none)] ?_ | refine vpl 5 [34, 40] [([0, 1, 2, 3, 4, 6, 7, 8, 9, 10], some (5, [6, 7, 8, 9, 10])), ([], some (11, [])), ([12, 13], none)] ?_ | refine vpl 7 [] [([0, 1, 2, 4, 5, 6], some (3, [4, 5, 6])), ([], some (7, [])), ([8, 9], none)] ?_ | refine vpl 13 [] [([0, 1, 2, 4, 5, 6], some (3, [4, 5, 6])), ([], some (7, [])), ([8, 9], none)] ?_)
    exact k _ _ _ (keep2 hk.kp rfl hk2.kp rfl rfl) (hs2.of rfl (fun _ => rfl) (Nat.le_refl _)) (hx2.same rfl rfl rfl) (dropP_ok hs h16).1 (dropP_ok hs h16).2 (drop_good hG)
  by_cases k4 : a.k = 4
  · have e1 : (a.k == 1) = false := beq_eq_false_iff_ne.2 k1
    have e2 : (a.k == 2) = false := beq_eq_false_iff_ne.2 k2
    have e3 : (a.k == 3) = false := beq_eq_false_iff_ne.2 k3
    have e4 : (a.k == 4) = true := by rw [k4]; rfl
    refine wni Tryz.f21 ?_; unfold Tryz.f21; simp only [Option.get!_some]
    repeat (first | simp only [go_sem, e1, e2, e3, e4] | simp (disch := first | exact oa | fail) only [AX, Int.reduceToNat, Int.reducePow, Nat.reducePow, e1, e2, e3, e4] | refine wki ?_ | refine wqn ?_ | refine vpl 3 [] [([0, 1, 2, 3, 4, 6, 7, 8, 9, 10], some (5, [6, 7, 8, 9, 10])), ([], some (11, [])), ([12, 13], none)] ?_ | refine vpl 5 [34, 40] [([0, 1, 2, 3, 4, 6, 7, 8, 9, 10], some (5, [6, 7, 8, 9, 10])), ([], some (11, [])), ([12, 13], none)] ?_ | refine vpl 7 [] [([0, 1, 2, 4, 5, 6], some (3, [4, 5, 6])), ([], some (7, [])), ([8, 9], none)] ?_ | refine vpl 13 [] [([0, 1, 2, 4, 5, 6], some (3, [4, 5, 6])), ([], some (7, [])), ([8, 9], none)] ?_)
    cases hat : isAt es a.t p with
    | false =>
      refine sess_Get_noneS hp (by omega) hat (hS.of rfl (fun _ => rfl) (Nat.le_refl _)) ?_
      intro s1 hk
      have hk1 := (Same.keep (T := TP) (d := d) hk).kp
      have hs1 : SessR s1 d g es D := hS.of (by rw [hk.hob]; rfl) (fun _ => (hk.obj _ _).trans rfl) (by rw [hk.gen]; exact Nat.le_refl _)
      have hx1 : SessD s1 dx gx es D := by
        refine SessD.keep ?_ hk1 hne
        exact hX.new5 rfl rfl rfl
      have j1 : s1.tmp 1 = .ptr dx gx 0 := (hk.tmp 1).trans rfl
      have j5 : s1.tmp 5 = .ptr 5 (st.gen 5) 0 := (hk.tmp 5).trans rfl
      have j55 : s1.obj 5 (st.gen 5) = some [.int .i64 a.k, .str (bs a.t), .str (bs a.x), .sl ql.length cs, .int .i64 a.n] := (hk.obj 5 (st.gen 5)).trans (new5_obj rfl)
      repeat (first | simp only [go_sem, j1, j5, j55] | simp (disch := first | exact oa | fail) only [AX, Int.reduceToNat, Int.reducePow, Nat.reducePow, j1, j5, j55] | refine wki ?_ | refine wqn ?_ | refine vpl 3 [] [([0, 1, 2, 3, 4, 6, 7, 8, 9, 10], some (5, [6, 7, 8, 9, 10])), ([], some (11, [])), ([12, 13], none)] ?_ | refine vpl 5 [34, 40] [([0, 1, 2, 3, 4, 6, 7, 8, 9, 10], some (5, [6, 7, 8, 9, 10])), ([], some (11, [])), ([12, 13], none)] ?_ | refine vpl 7 [] [([0, 1, 2, 4, 5, 6], some (3, [4, 5, 6])), ([], some (7, [])), ([8, 9], none)] ?_ | refine vpl 13 [] [([0, 1, 2, 4, 5, 6], some (3, [4, 5, 6])), ([], some (7, [])), ([8, 9], none)] ?_)
      refine doc_Get_none hp (by omega) hat (hx1.same rfl rfl rfl) ?_
      intro s2 hk2
      have hkk2 := (Same.keep (T := TD) (d := dx) hk2).kp
      have hs2 : SessR s2 d g es D := by
        refine SessR.keep ?_ hkk2 hne.symm
        exact hs1.of rfl (fun _ => rfl) (Nat.le_refl _)
      have hx2 : SessD s2 dx gx es D := hx1.same (by rw [hk2.hob]; rfl) (by funext a b; exact (hk2.obj a b).trans rfl) (by rw [hk2.gen]; rfl)
      have m7 : s2.tmp 7 = .sv (.sl 0 []) := (hk2.tmp 7).trans rfl
      have m8 : s2.tmp 8 = .sv (.int .i64 6) := (hk2.tmp 8).trans rfl
      have hR := ref2_RatsU (l := []) (cs := []) (ds := []) (L := 1) (M := 1) rfl rfl (by omega) (by omega) (by omega) (by decide)
      repeat (first | simp only [go_sem, m7, m8, beq_self_eq_true] | simp (disch := first | exact oa | fail) only [AX, Int.reduceToNat, Int.reducePow, Nat.reducePow, m7, m8, beq_self_eq_true] | refine wki ?_ | refine wqn ?_ | refine vpl 3 [] [([0, 1, 2, 3, 4, 6, 7, 8, 9, 10], some (5, [6, 7, 8, 9, 10])), ([], some (11, [])), ([12, 13], none)] ?_ | refine vpl 5 [34, 40] [([0, 1, 2, 3, 4, 6, 7, 8, 9, 10], some (5, [6, 7, 8, 9, 10])), ([], some (11, [])), ([12, 13], none)] ?_ | refine vpl 7 [] [([0, 1, 2, 4, 5, 6], some (3, [4, 5, 6])), ([], some (7, [])), ([8, 9], none)] ?_ | refine vpl 13 [] [([0, 1, 2, 4, 5, 6], some (3, [4, 5, 6])), ([], some (7, [])), ([8, 9], none)] ?_ | refine vf_of (by first | exact hR) ?_)
      exact k _ _ _ (keep2 hk1 rfl hkk2 rfl rfl) (hs2.of rfl (fun _ => rfl) (Nat.le_refl _)) (hx2.same rfl rfl rfl) hs h16 hG
    | true =>
      have hpl := at_lt hat
      obtain ⟨ql', e5, e6, hm, hz'⟩ := good_at hG (i := p) hpl
      have hrow' := rvsC_row (L := 500) ql' hz'
      have hc' : Go.Ev.Fn CX 33 [.sl (es.getD p default).2.1 (es.getD p default).2.2] (.sl (es.getD p default).2.1 (rvsC ql')) := by
        rw [e5, e6]
        exact sess_copied hrow' (by omega) (by omega) (by omega)
      refine sess_Get_atS hp (by omega) hat hc' (hS.of rfl (fun _ => rfl) (Nat.le_refl _)) ?_
      intro s1 hk
      have hk1 := (Same.keep (T := TP) (d := d) hk).kp
      have hs1 : SessR s1 d g es D := hS.of (by rw [hk.hob]; rfl) (fun _ => (hk.obj _ _).trans rfl) (by rw [hk.gen]; exact Nat.le_refl _)
      have hx1 : SessD s1 dx gx es D := by
        refine SessD.keep ?_ hk1 hne
        exact hX.new5 rfl rfl rfl
      have j1 : s1.tmp 1 = .ptr dx gx 0 := (hk.tmp 1).trans rfl
      have j5 : s1.tmp 5 = .ptr 5 (st.gen 5) 0 := (hk.tmp 5).trans rfl
      have j55 : s1.obj 5 (st.gen 5) = some [.int .i64 a.k, .str (bs a.t), .str (bs a.x), .sl ql.length cs, .int .i64 a.n] := (hk.obj 5 (st.gen 5)).trans (new5_obj rfl)
      rw [e5]
      repeat (first | simp only [go_sem, j1, j5, j55] | simp (disch := first | exact oa | fail) only [AX, Int.reduceToNat, Int.reducePow, Nat.reducePow, j1, j5, j55] | refine wki ?_ | refine wqn ?_ | refine vpl 3 [] [([0, 1, 2, 3, 4, 6, 7, 8, 9, 10], some (5, [6, 7, 8, 9, 10])), ([], some (11, [])), ([12, 13], none)] ?_ | refine vpl 5 [34, 40] [([0, 1, 2, 3, 4, 6, 7, 8, 9, 10], some (5, [6, 7, 8, 9, 10])), ([], some (11, [])), ([12, 13], none)] ?_ | refine vpl 7 [] [([0, 1, 2, 4, 5, 6], some (3, [4, 5, 6])), ([], some (7, [])), ([8, 9], none)] ?_ | refine vpl 13 [] [([0, 1, 2, 4, 5, 6], some (3, [4, 5, 6])), ([], some (7, [])), ([8, 9], none)] ?_)
      refine doc_Get_at hp (by omega) hat (hx1.same rfl rfl rfl) ?_
      intro s2 hk2
      rw [e5, e6]
      have hkk2 := (Same.keep (T := TD) (d := dx) hk2).kp
      have hs2 : SessR s2 d g es D := by
        refine SessR.keep ?_ hkk2 hne.symm
        exact hs1.of rfl (fun _ => rfl) (Nat.le_refl _)
      have hx2 : SessD s2 dx gx es D := hx1.same (by rw [hk2.hob]; rfl) (by funext a b; exact (hk2.obj a b).trans rfl) (by rw [hk2.gen]; rfl)
      have m7 : s2.tmp 7 = .sv (.sl ql'.length (rvsC ql')) := (hk2.tmp 7).trans rfl
      have m8 : s2.tmp 8 = .sv (.int .i64 0) := (hk2.tmp 8).trans rfl
      have hR := ref2_RatsU hrow' hrow' (by omega) (by omega) (by omega) (by omega)
      repeat (first | simp only [go_sem, m7, m8, beq_self_eq_true] | simp (disch := first | exact oa | fail) only [AX, Int.reduceToNat, Int.reducePow, Nat.reducePow, m7, m8, beq_self_eq_true] | refine wki ?_ | refine wqn ?_ | refine vpl 3 [] [([0, 1, 2, 3, 4, 6, 7, 8, 9, 10], some (5, [6, 7, 8, 9, 10])), ([], some (11, [])), ([12, 13], none)] ?_ | refine vpl 5 [34, 40] [([0, 1, 2, 3, 4, 6, 7, 8, 9, 10], some (5, [6, 7, 8, 9, 10])), ([], some (11, [])), ([12, 13], none)] ?_ | refine vpl 7 [] [([0, 1, 2, 4, 5, 6], some (3, [4, 5, 6])), ([], some (7, [])), ([8, 9], none)] ?_ | refine vpl 13 [] [([0, 1, 2, 4, 5, 6], some (3, [4, 5, 6])), ([], some (7, [])), ([8, 9], none)] ?_ | refine vf_of (by first | exact hR) ?_)
      exact k _ _ _ (keep2 hk1 rfl hkk2 rfl rfl) (hs2.of rfl (fun _ => rfl) (Nat.le_refl _)) (hx2.same rfl rfl rfl) hs h16 hG
  by_cases k5 : a.k = 5
  · have e1 : (a.k == 1) = false := beq_eq_false_iff_ne.2 k1
    have e2 : (a.k == 2) = false := beq_eq_false_iff_ne.2 k2
    have e3 : (a.k == 3) = false := beq_eq_false_iff_ne.2 k3
    have e4 : (a.k == 4) = false := beq_eq_false_iff_ne.2 k4
    have e5 : (a.k == 5) = true := by rw [k5]; rfl
    refine wni Tryz.f21 ?_; unfold Tryz.f21; simp only [Option.get!_some]
    repeat (first | simp only [go_sem, e1, e2, e3, e4, e5] | simp (disch := first | exact oa | fail) only [AX, Int.reduceToNat, Int.reducePow, Nat.reducePow, e1, e2, e3, e4, e5] | refine wki ?_ | refine wqn ?_ | refine vpl 3 [] [([0, 1, 2, 3, 4, 6, 7, 8, 9, 10], some (5, [6, 7, 8, 9, 10])), ([], some (11, [])), ([12, 13], none)] ?_ | refine vpl 5 [34, 40] [([0, 1, 2, 3, 4, 6, 7, 8, 9, 10], some (5, [6, 7, 8, 9, 10])), ([], some (11, [])), ([12, 13], none)] ?_ | refine vpl 7 [] [([0, 1, 2, 4, 5, 6], some (3, [4, 5, 6])), ([], some (7, [])), ([8, 9], none)] ?_ | refine vpl 13 [] [([0, 1, 2, 4, 5, 6], some (3, [4, 5, 6])), ([], some (7, [])), ([8, 9], none)] ?_)
    refine sess_SetDigits a.n (hS.of rfl (fun _ => rfl) (Nat.le_refl _)) ?_
    intro s1 hk hs1
    have hx1 : SessD s1 dx gx es D := by
      refine SessD.keep ?_ hk.kp hne
      exact hX.new5 rfl rfl rfl
    have j1 : s1.tmp 1 = .ptr dx gx 0 := (hk.tmp 1 hpx).trans rfl
    have j5 : s1.tmp 5 = .ptr 5 (st.gen 5) 0 := (hk.tmp 5 rfl).trans rfl
    have j84 : s1.tmp 84 = .ptr dx gx 0 := (hk.tmp 84 hpx).trans rfl
    have j85 : s1.tmp 85 = .ptr 5 (st.gen 5) 4 := (hk.tmp 85 rfl).trans rfl
    have j86 : s1.tmp 86 = .sv (.int .i64 a.n) := (hk.tmp 86 rfl).trans rfl
    have j55 : s1.obj 5 (st.gen 5) = some [.int .i64 a.k, .str (bs a.t), .str (bs a.x), .sl ql.length cs, .int .i64 a.n] := (hk.obj 5 (st.gen 5) rfl (Nat.lt_succ_self _)).trans (new5_obj rfl)
    repeat (first | simp only [go_sem, j1, j5, j84, j85, j86, j55] | simp (disch := first | exact oa | fail) only [AX, Int.reduceToNat, Int.reducePow, Nat.reducePow, j1, j5, j84, j85, j86, j55] | refine wki ?_ | refine wqn ?_ | refine vpl 3 [] [([0, 1, 2, 3, 4, 6, 7, 8, 9, 10], some (5, [6, 7, 8, 9, 10])), ([], some (11, [])), ([12, 13], none)] ?_ | refine vpl 5 [34, 40] [([0, 1, 2, 3, 4, 6, 7, 8, 9, 10], some (5, [6, 7, 8, 9, 10])), ([], some (11, [])), ([12, 13], none)] ?_ | refine vpl 7 [] [([0, 1, 2, 4, 5, 6], some (3, [4, 5, 6])), ([], some (7, [])), ([8, 9], none)] ?_ | refine vpl 13 [] [([0, 1, 2, 4, 5, 6], some (3, [4, 5, 6])), ([], some (7, [])), ([8, 9], none)] ?_)
    refine doc_SetDigits a.n (hx1.same rfl rfl rfl) ?_
    intro s2 hk2 hx2
    have hs2 : SessR s2 d g es (if digOk a.n = true then a.n else D) := by
      refine SessR.keep ?_ hk2.kp hne.symm
      exact hs1.of rfl (fun _ => rfl) (Nat.le_refl _)
    have m : s2.tmp 83 = .sv (.int .i64 (if digOk a.n = true then 0 else 1)) := (hk2.tmp 83 rfl).trans rfl
    repeat (first | simp only [go_sem, m, beq_self_eq_true] | simp (disch := first | exact oa | fail) only [AX, Int.reduceToNat, Int.reducePow, Nat.reducePow, m, beq_self_eq_true] | refine wki ?_ | refine wqn ?_ | refine vpl 3 [] [([0, 1, 2, 3, 4, 6, 7, 8, 9, 10], some (5, [6, 7, 8, 9, 10])), ([], some (11, [])), ([12, 13], none)] ?_ | refine vpl 5 [34, 40] [([0, 1, 2, 3, 4, 6, 7, 8, 9, 10], some (5, [6, 7, 8, 9, 10])), ([], some (11, [])), ([12, 13], none)] ?_ | refine vpl 7 [] [([0, 1, 2, 4, 5, 6], some (3, [4, 5, 6])), ([], some (7, [])), ([8, 9], none)] ?_ | refine vpl 13 [] [([0, 1, 2, 4, 5, 6], some (3, [4, 5, 6])), ([], some (7, [])), ([8, 9], none)] ?_)
    exact k _ _ _ (keep2 hk.kp rfl hk2.kp rfl rfl) (hs2.of rfl (fun _ => rfl) (Nat.le_refl _)) (hx2.same rfl rfl rfl) hs h16 hG
  · have e1 : (a.k == 1) = false := beq_eq_false_iff_ne.2 k1
    have e2 : (a.k == 2) = false := beq_eq_false_iff_ne.2 k2
    have e3 : (a.k == 3) = false := beq_eq_false_iff_ne.2 k3
    have e4 : (a.k == 4) = false := beq_eq_false_iff_ne.2 k4
    have e5 : (a.k == 5) = false := beq_eq_false_iff_ne.2 k5
    refine wni Tryz.f21 ?_; unfold Tryz.f21; simp only [Option.get!_some]
    repeat (first | simp only [go_sem, e1, e2, e3, e4, e5] | simp (disch := first | exact oa | fail) only [AX, Int.reduceToNat, Int.reducePow, Nat.reducePow, e1, e2, e3, e4, e5] | refine wki ?_ | refine wqn ?_ | refine vpl 3 [] [([0, 1, 2, 3, 4, 6, 7, 8, 9, 10], some (5, [6, 7, 8, 9, 10])), ([], some (11, [])), ([12, 13], none)] ?_ | refine vpl 5 [34, 40] [([0, 1, 2, 3, 4, 6, 7, 8, 9, 10], some (5, [6, 7, 8, 9, 10])), ([], some (11, [])), ([12, 13], none)] ?_ | refine vpl 7 [] [([0, 1, 2, 4, 5, 6], some (3, [4, 5, 6])), ([], some (7, [])), ([8, 9], none)] ?_ | refine vpl 13 [] [([0, 1, 2, 4, 5, 6], some (3, [4, 5, 6])), ([], some (7, [])), ([8, 9], none)] ?_)
    exact k _ _ _ (fun t _ _ => by rw [tmp_leave]; exact up_even (vs := [])) (hS.of rfl (fun _ => rfl) (Nat.le_refl _)) (hX.new5 rfl rfl rfl) hs h16 hG
end
end Go.Proofs.YticocojomlfhgaaGreatDoor
set_option maxHeartbeats 4000000
namespace Go.Proofs.YticocojomlfhgaaGreatDoor
open Go.Ev
theorem doc_New : FnH CX 20 [] [.nil, .nil, .sv (.int .i64 6)] := ⟨20, [], by kernel_rfl⟩
theorem same_ratsC : ∀ ps : List InR, sameL (ratsC ps) (ratsC ps) = true
  | [] => rfl
  | p :: ps => by
    have := same_ratsC ps
    have hn := same_nat p.2.1
    have hd := same_nat p.2.2
    show sameL (.bool p.1 :: natV p.2.1 :: natV p.2.2 :: ratsC ps) (.bool p.1 :: natV p.2.1 :: natV p.2.2 :: ratsC ps) = true
    simp only [sameL, sameSV, decide_true, Bool.true_and, hn, hd, this]
theorem same_str (b : ByteArray) : sameSV (.str b) (.str b) = true := by simp [sameSV]
theorem same_acts : ∀ acs : List ActI, sameL (actsC acs) (actsC acs) = true
  | [] => rfl
  | a :: acs => by
    have := same_acts acs
    have hr := same_ratsC a.ps
    rw [actsC_cons]
    show sameL (.int .i64 a.k :: .str (bs a.t) :: .str (bs a.x) :: .sl a.ps.length (ratsC a.ps) :: .int .i64 a.n :: actsC acs) (.int .i64 a.k :: .str (bs a.t) :: .str (bs a.x) :: .sl a.ps.length (ratsC a.ps) :: .int .i64 a.n :: actsC acs) = true
    simp only [sameL, same_str, Bool.true_and, this]
    simp [sameSV, hr]
theorem same_drop : ∀ {l : List SV} (n : Nat), sameL l l = true -> sameL (l.drop n) (l.drop n) = true
  | _, 0, h => h
  | [], _ + 1, _ => rfl
  | x :: l, n + 1, h => by
    unfold sameL at h
    rw [Bool.and_eq_true] at h
    exact same_drop (l := l) n h.2
theorem plays_law (s0 : SV) (sh0 : ShpT Tryz.prog 7 42 [s0]) : Go.Ev.Fn CX 6 [s0] (.bool true) := by
  obtain ⟨acs, e0, hlen, hall⟩ := shp_acts (n := 1) sh0
  cases e0
  have hK := law22_known
  have hN := sess_New
  have hM := doc_New
  have hL := law22_long acs
  cases hlo : (acs.take 60).any longA with
  | true =>
    rw [hlo] at hL
    refine fni Tryz.f6 ?_; unfold Tryz.f6; simp only [Option.get!_some]
    repeat (first | simp only [go_sem] | simp (disch := first | exact oa | fail) only [AX, Int.reduceToNat, Int.reducePow, Nat.reducePow] | refine wki ?_ | refine wqn ?_ | refine vpl 9 [] [([0, 1, 2, 3, 4, 5], some (6, [])), ([7, 8, 9, 10], some (11, [])), ([12, 13, 14, 15, 16, 17, 18, 19, 21, 22, 23, 24, 25], some (20, [21, 22, 23, 24, 25])), ([], some (26, [])), ([27, 28], none)] ?_ | refine vf_of (by first | exact hL) ?_)
  | false =>
    rw [hlo] at hL
    have hal := actsC_len acs
    refine fni Tryz.f6 ?_; unfold Tryz.f6; simp only [Option.get!_some]
    repeat (first | simp only [go_sem] | simp (disch := first | exact oa | fail) only [AX, Int.reduceToNat, Int.reducePow, Nat.reducePow] | refine wki ?_ | refine wqn ?_ | refine vpl 9 [] [([0, 1, 2, 3, 4, 5], some (6, [])), ([7, 8, 9, 10], some (11, [])), ([12, 13, 14, 15, 16, 17, 18, 19, 21, 22, 23, 24, 25], some (20, [21, 22, 23, 24, 25])), ([], some (26, [])), ([27, 28], none)] ?_ | refine vf_of (by first | exact hL) ?_)
    refine vf_heap hN ?_
    repeat (first | simp only [go_sem] | simp (disch := first | exact oa | fail) only [AX, Int.reduceToNat, Int.reducePow, Nat.reducePow] | refine wki ?_ | refine wqn ?_ | refine vpl 9 [] [([0, 1, 2, 3, 4, 5], some (6, [])), ([7, 8, 9, 10], some (11, [])), ([12, 13, 14, 15, 16, 17, 18, 19, 21, 22, 23, 24, 25], some (20, [21, 22, 23, 24, 25])), ([], some (26, [])), ([27, 28], none)] ?_)
    refine vf_heap hM ?_
    repeat (first | simp only [go_sem] | simp (disch := first | exact oa | fail) only [AX, Int.reduceToNat, Int.reducePow, Nat.reducePow] | refine wki ?_ | refine wqn ?_ | refine vpl 9 [] [([0, 1, 2, 3, 4, 5], some (6, [])), ([7, 8, 9, 10], some (11, [])), ([12, 13, 14, 15, 16, 17, 18, 19, 21, 22, 23, 24, 25], some (20, [21, 22, 23, 24, 25])), ([], some (26, [])), ([27, 28], none)] ?_)
    refine vp_loop_inv (fun s => s.tmp 0 = .sv (.sl acs.length (actsC acs)) /\ s.tmp 3 = .ptr 2000008 1 0 /\ s.tmp 4 = .ptr 2000009 1 0 /\ ∃ i : Nat, s.tmp 5 = .sv (.int .i64 (i : Int)) /\ i <= acs.length /\ i <= 60 /\ ∃ es D, SessR s 2000008 1 es D /\ SessD s 2000009 1 es D /\ Srt es /\ es.length <= 16 /\ Good es)
      (fun s => match s.tmp 5 with | .sv (.int _ i) => acs.length - i.toNat | _ => 0) ?_ ?_
    · exact ⟨rfl, rfl, rfl, 0, rfl, by omega, by omega, [], 6, ⟨by decide, .inl ⟨rfl, rfl⟩⟩, ⟨by decide, .inl ⟨rfl, rfl⟩⟩, List.Pairwise.nil, by simp, good_nil⟩
    rintro s ⟨i0, i3, i4, i, i5, hi, hi60, es, D, hS, hX, hs, h16, hG⟩
    by_cases hend : i = acs.length
    · subst hend
      repeat (first | simp only [go_sem, i0, i3, i4, i5] | simp (disch := first | exact oa | fail) only [AX, Int.reduceToNat, Int.reducePow, Nat.reducePow, i0, i3, i4, i5] | refine wki ?_ | refine wqn ?_ | refine vpl 9 [] [([0, 1, 2, 3, 4, 5], some (6, [])), ([7, 8, 9, 10], some (11, [])), ([12, 13, 14, 15, 16, 17, 18, 19, 21, 22, 23, 24, 25], some (20, [21, 22, 23, 24, 25])), ([], some (26, [])), ([27, 28], none)] ?_ | refine vf_of (by first | exact hK) ?_)
    by_cases h60 : i = 60
    · subst h60
      repeat (first | simp only [go_sem, i0, i3, i4, i5] | simp (disch := first | exact oa | fail) only [AX, Int.reduceToNat, Int.reducePow, Nat.reducePow, i0, i3, i4, i5] | refine wki ?_ | refine wqn ?_ | refine vpl 9 [] [([0, 1, 2, 3, 4, 5], some (6, [])), ([7, 8, 9, 10], some (11, [])), ([12, 13, 14, 15, 16, 17, 18, 19, 21, 22, 23, 24, 25], some (20, [21, 22, 23, 24, 25])), ([], some (26, [])), ([27, 28], none)] ?_ | refine vf_of (by first | exact hK) ?_)
    obtain ⟨rest, g1⟩ := act_at (acs := acs) (i := i) (by omega)
    obtain ⟨q1, q2, q3, q4⟩ := longA_parts (long_ex hlo (i := i) (by omega) (by omega))
    have hok : ∀ p ∈ (acs.getD i default).ps, p.ok := by
      refine (hall _ ?_).2
      rw [List.getD_eq_getElem?_getD, List.getElem?_eq_getElem (by omega)]
      exact List.getElem_mem _
    have hrow := big3_row q4 hok
    have hsa := same_acts acs
    have hm1 := same_drop (i * 5) hsa
    have hm2 := same_drop 1 hm1
    rw [g1] at hm1 hm2
    rw [List.drop_succ_cons, List.drop_zero] at hm2
    generalize acs.getD i default = a at *
    have n1 := sess_Name a.t (by omega)
    have n2 := ref22_Name a.t
    repeat (first | simp only [go_sem, i0, i3, i4, i5, g1, hal, List.drop_succ_cons, List.drop_zero, List.head?_cons] | simp (disch := first | exact oa | fail) only [AX, Int.reduceToNat, Int.reducePow, Nat.reducePow, i0, i3, i4, i5, g1, hal, List.drop_succ_cons, List.drop_zero, List.head?_cons] | refine wki ?_ | refine wqn ?_ | refine vpl 9 [] [([0, 1, 2, 3, 4, 5], some (6, [])), ([7, 8, 9, 10], some (11, [])), ([12, 13, 14, 15, 16, 17, 18, 19, 21, 22, 23, 24, 25], some (20, [21, 22, 23, 24, 25])), ([], some (26, [])), ([27, 28], none)] ?_)
    refine act_is (a := a) (by decide) (by omega) (by omega) (by omega) hrow hG h16 hs (hS.of rfl (fun _ => rfl) (Nat.le_refl _)) (hX.same rfl rfl rfl) ?_
    intro s1 es1 D1 hk hS1 hX1 hs1 h161 hG1
    have j0 : s1.tmp 0 = .sv (.sl acs.length (actsC acs)) := (hk 0 (by simp only [tmp_put, reduceIte, Nat.reduceEqDiff, i0]; rfl) (by simp only [tmp_put, reduceIte, Nat.reduceEqDiff, i0]; rfl)).trans (by simp only [tmp_put, reduceIte, Nat.reduceEqDiff, i0])
    have j3 : s1.tmp 3 = .ptr 2000008 1 0 := (hk 3 (by simp only [tmp_put, reduceIte, Nat.reduceEqDiff, i3]; rfl) (by simp only [tmp_put, reduceIte, Nat.reduceEqDiff, i3]; rfl)).trans (by simp only [tmp_put, reduceIte, Nat.reduceEqDiff, i3])
    have j4 : s1.tmp 4 = .ptr 2000009 1 0 := (hk 4 (by simp only [tmp_put, reduceIte, Nat.reduceEqDiff, i4]; rfl) (by simp only [tmp_put, reduceIte, Nat.reduceEqDiff, i4]; rfl)).trans (by simp only [tmp_put, reduceIte, Nat.reduceEqDiff, i4])
    have j5 : s1.tmp 5 = .sv (.int .i64 (i : Int)) := (hk 5 (by simp only [tmp_put, reduceIte, Nat.reduceEqDiff, i5]; rfl) (by simp only [tmp_put, reduceIte, Nat.reduceEqDiff, i5]; rfl)).trans (by simp only [tmp_put, reduceIte, Nat.reduceEqDiff, i5])
    clear hk hS hX
    repeat (first | simp only [go_sem, j0, j3, j4, j5, Bool.not_true] | simp (disch := first | exact oa | fail) only [AX, Int.reduceToNat, Int.reducePow, Nat.reducePow, j0, j3, j4, j5, Bool.not_true] | refine wki ?_ | refine wqn ?_ | refine vpl 9 [] [([0, 1, 2, 3, 4, 5], some (6, [])), ([7, 8, 9, 10], some (11, [])), ([12, 13, 14, 15, 16, 17, 18, 19, 21, 22, 23, 24, 25], some (20, [21, 22, 23, 24, 25])), ([], some (26, [])), ([27, 28], none)] ?_)
    refine alike_is (by decide) hG1 h161 hs1 (hS1.of rfl (fun _ => rfl) (Nat.le_refl _)) (hX1.same rfl rfl rfl) ?_
    intro s2 hk hS2 hX2
    have m0 : s2.tmp 0 = .sv (.sl acs.length (actsC acs)) := (hk.tmp 0 (by simp only [tmp_put, reduceIte, Nat.reduceEqDiff, j0]; rfl)).trans (by simp only [tmp_put, reduceIte, Nat.reduceEqDiff, j0])
    have m3 : s2.tmp 3 = .ptr 2000008 1 0 := (hk.tmp 3 (by simp only [tmp_put, reduceIte, Nat.reduceEqDiff, j3]; rfl)).trans (by simp only [tmp_put, reduceIte, Nat.reduceEqDiff, j3])
    have m4 : s2.tmp 4 = .ptr 2000009 1 0 := (hk.tmp 4 (by simp only [tmp_put, reduceIte, Nat.reduceEqDiff, j4]; rfl)).trans (by simp only [tmp_put, reduceIte, Nat.reduceEqDiff, j4])
    have m5 : s2.tmp 5 = .sv (.int .i64 (i : Int)) := (hk.tmp 5 (by simp only [tmp_put, reduceIte, Nat.reduceEqDiff, j5]; rfl)).trans (by simp only [tmp_put, reduceIte, Nat.reduceEqDiff, j5])
    have m30 : s2.tmp 30 = .sv (.bool false) := (hk.tmp 30 rfl).trans rfl
    clear hk hS1 hX1
    repeat (first | simp only [go_sem, m0, m3, m4, m5, m30, g1, hal, List.drop_succ_cons, List.drop_zero, List.head?_cons, Bool.not_true, st_sl hsa, st_mem hm1, st_mem hm2, bne_self_eq_false, beq_self_eq_true] | simp (disch := first | exact oa | fail) only [AX, Int.reduceToNat, Int.reducePow, Nat.reducePow, m0, m3, m4, m5, m30, g1, hal, List.drop_succ_cons, List.drop_zero, List.head?_cons, Bool.not_true, st_sl hsa, st_mem hm1, st_mem hm2, bne_self_eq_false, beq_self_eq_true] | refine wki ?_ | refine wqn ?_ | refine vpl 9 [] [([0, 1, 2, 3, 4, 5], some (6, [])), ([7, 8, 9, 10], some (11, [])), ([12, 13, 14, 15, 16, 17, 18, 19, 21, 22, 23, 24, 25], some (20, [21, 22, 23, 24, 25])), ([], some (26, [])), ([27, 28], none)] ?_ | refine vf_of (by first | exact n1 | exact n2) ?_)
    exact ⟨⟨i + 1, rfl, by omega, by omega, es1, D1, hS2.of rfl (fun _ => rfl) (Nat.le_refl _), hX2.same rfl rfl rfl, hs1, h161, hG1⟩, by omega⟩
end Go.Proofs.YticocojomlfhgaaGreatDoor
