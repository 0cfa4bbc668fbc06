/- Part 8 of the proof: the evaluator, contracts of functions and their plain laws (joined by program). No condition. -/
import Derived.Test.YticocojomlfhgaaGreatDoorPart7
set_option linter.unusedVariables false
set_option linter.unusedSimpArgs false
set_option maxRecDepth 100000
namespace Go.Proofs.YticocojomlfhgaaGreatDoor
open Go.Ev
def nmB (i : Nat) : List UInt8 := [UInt8.ofNat (97 + i % 26), UInt8.ofNat (48 + i / 26)]
def namesE (k : Nat) : List Ent := (List.range k).map fun i => (nmB i, 0, [])
theorem namesE_len (k : Nat) : (namesE k).length = k := by unfold namesE; simp
theorem namesE_succ (k : Nat) : namesE (k + 1) = namesE k ++ [(nmB k, 0, [])] := by unfold namesE; rw [List.range_succ, List.map_append]; rfl
def posB (es : List Ent) (t : List UInt8) (p : Nat) : Bool := decide (p ≤ es.length) && (List.range es.length).all fun k => if k < p then decide (cmpAt es k t < 0) else decide (0 ≤ cmpAt es k t)
theorem posB_ok {es : List Ent} {t : List UInt8} {p : Nat} (h : posB es t p = true) : PosAt es t p := by
  unfold posB at h
  rw [Bool.and_eq_true, List.all_eq_true] at h
  obtain ⟨h1, h2⟩ := h
  have h1 := of_decide_eq_true h1
  refine ⟨h1, fun k hk => ?_, fun k hk hl => ?_⟩
  · have := h2 k (List.mem_range.2 (by omega))
    rw [if_pos hk] at this
    exact of_decide_eq_true this
  · have := h2 k (List.mem_range.2 hl)
    rw [if_neg (by omega)] at this
    have := of_decide_eq_true this
    omega
theorem nm_name : ∀ i, i < 30 → nameP (nmB i) = true := by decide +kernel
theorem nm_end : ∀ i, i < 16 → posB (namesE i) (nmB i) i = true := by decide +kernel
def pfull (i : Nat) : Nat := if i < 26 then 16 else i - 25
theorem nm_full : ∀ i, i < 30 → 16 ≤ i → posB (namesE 16) (nmB i) (pfull i) = true ∧ isAt (namesE 16) (nmB i) (pfull i) = false := by decide +kernel
theorem nm_first : ∀ k, k < 17 → 0 < k → posB (namesE k) [97, 48] 0 = true ∧ isAt (namesE k) [97, 48] 0 = true := by decide +kernel
theorem copied_nil : Go.Ev.Fn CX 33 [.sl 0 []] (.sl 0 []) := sess_copied (l := []) (cs := []) (L := 1) rfl (by omega) (by omega) (by decide)
theorem SessR.frz {st s : St} {d g : Nat} {es : List Ent} {D : Int} {d2 g2 : Nat} {cs : List SV} (h : SessR st d g es D) (hd : d2 ≠ 25) (h1 : s.hob d g = (st.hob d g).map (fun ts => ts.map (fun t => t.frz d2 g2 cs))) (h2 : ∀ g1, s.obj 25 g1 = st.obj 25 g1) (h3 : st.gen 25 ≤ s.gen 25) : SessR s d g es D := by
  refine h.of ?_ h2 h3
  rw [h1]
  rcases h.row with ⟨_, e⟩ | ⟨g1, _, _, e, _⟩
  · rw [e]; rfl
  · rw [e]
    simp only [Option.map_some, List.map_cons, List.map_nil, TV.frz]
    rw [if_neg (by omega)]
theorem ub_bytes : Tryz.prog.underlying 38 = some (.slice 5) := by kernel_rfl
theorem ub_str : Tryz.prog.underlying 9 = some .string := by kernel_rfl
theorem many_law (a0 : Int) (w0 : (Lit.int .i64 a0).wf = true) : Go.Ev.Fn CX 4 [.int .i64 a0] (.bool true) := by
  have hK := law22_known
  have hN := sess_New
  have hI := ref2_Int 1 (by omega)
  have e5 : (rv (((1 : Int)) : Rat) : SV) = ratV false [1] [1] := by kernel_rfl
  rw [e5] at hI
  by_cases h1 : a0 < 0
  · refine Go.Ev.Fn.intro (fn := Tryz.f4) (body := (Tryz.f4).body.get!) (by kernel_rfl) (by kernel_rfl) (by kernel_rfl) (fun _ => rfl) (Nat.le_of_ble_eq_true (by kernel_rfl)) ?_; unfold Tryz.f4; simp only [Option.get!_some]
    repeat (first | (simp only [go_sem]) | (simp (disch := (first | omega | (simp only [AL, List.length_map]; omega))) only [AR, AL, ifT, ifF, take_all, List.length_cons, List.length_nil, Int.reduceToNat, Int.reducePow, Nat.reducePow]) | (refine wk_intro (by kernel_rfl) ?_) | (refine vf_of (by first | exact hK) ?_))
  by_cases h2 : 30 < a0
  · refine Go.Ev.Fn.intro (fn := Tryz.f4) (body := (Tryz.f4).body.get!) (by kernel_rfl) (by kernel_rfl) (by kernel_rfl) (fun _ => rfl) (Nat.le_of_ble_eq_true (by kernel_rfl)) ?_; unfold Tryz.f4; simp only [Option.get!_some]
    repeat (first | (simp only [go_sem]) | (simp (disch := (first | omega | (simp only [AL, List.length_map]; omega))) only [AR, AL, ifT, ifF, take_all, List.length_cons, List.length_nil, Int.reduceToNat, Int.reducePow, Nat.reducePow]) | (refine wk_intro (by kernel_rfl) ?_) | (refine vf_of (by first | exact hK) ?_))
  obtain ⟨n, rfl⟩ : ∃ n : Nat, a0 = (n : Int) := ⟨a0.toNat, by omega⟩
  have hn : n ≤ 30 := by omega
  clear h1 h2 w0
  refine Go.Ev.Fn.intro (fn := Tryz.f4) (body := (Tryz.f4).body.get!) (by kernel_rfl) (by kernel_rfl) (by kernel_rfl) (fun _ => rfl) (Nat.le_of_ble_eq_true (by kernel_rfl)) ?_; unfold Tryz.f4; simp only [Option.get!_some]
  repeat (first | (simp only [go_sem]) | (simp (disch := (first | omega | (simp only [AL, List.length_map]; omega))) only [AR, AL, ifT, ifF, take_all, List.length_cons, List.length_nil, Int.reduceToNat, Int.reducePow, Nat.reducePow]) | (refine wk_intro (by kernel_rfl) ?_))
  refine vf_heap hN ?_
  repeat (first | (simp only [go_sem]) | (simp (disch := (first | omega | (simp only [AL, List.length_map]; omega))) only [AR, AL, ifT, ifF, take_all, List.length_cons, List.length_nil, Int.reduceToNat, Int.reducePow, Nat.reducePow]) | (refine wk_intro (by kernel_rfl) ?_))
  refine vp_loop_inv (fun s => s.tmp 0 = .sv (.int .i64 (n : Int)) ∧ s.tmp 3 = .ptr 2000013 1 0 ∧ ∃ i : Nat, s.tmp 4 = .sv (.int .i64 (i : Int)) ∧ i ≤ n ∧ SessR s 2000013 1 (namesE (min i 16)) 6)
    (fun s => match s.tmp 4 with | .sv (.int _ i) => n - i.toNat | _ => 0) ?_ ?_
  · exact ⟨rfl, rfl, 0, rfl, by omega, ⟨by decide, .inl ⟨rfl, rfl⟩⟩⟩
  rintro s ⟨i0, i3, i, i4, hi, hS⟩
  by_cases hend : i = n
  · subst hend
    have hL := namesE_len (min i 16)
    have hmn : (if ((i : Nat) : Int) ≤ 16 then ((i : Nat) : Int) else 16) = ((min i 16 : Nat) : Int) := by split <;> omega
    by_cases h0 : i = 0
    · subst h0
      repeat (first | (simp only [go_sem, i0, i3, i4]) | (simp (disch := (first | omega | (simp only [AL, List.length_map]; omega))) only [AR, AL, ifT, ifF, take_all, List.length_cons, List.length_nil, Int.reduceToNat, Int.reducePow, Nat.reducePow, i0, i3, i4]) | (refine wk_intro (by kernel_rfl) ?_))
      refine sess_Names (es := []) (D := 6) (by simp) (hS.of rfl (fun _ => rfl) (Nat.le_refl _)) ?_
      intro s1 tv hk hs1 htv
      rcases htv with ⟨_, rfl⟩ | ⟨g', rfl, _⟩
      · have j0 : s1.tmp 0 = .sv (.int .i64 0) := (hk.tmp 0 (by simp only [tmp_put, reduceIte, Nat.reduceEqDiff, i0]; rfl)).trans (by simp only [tmp_put, reduceIte, Nat.reduceEqDiff, i0]; rfl)
        repeat (first | (simp only [go_sem, j0]) | (simp (disch := (first | omega | (simp only [AL, List.length_map]; omega))) only [AR, AL, ifT, ifF, take_all, List.length_cons, List.length_nil, Int.reduceToNat, Int.reducePow, Nat.reducePow, j0]) | (refine wk_intro (by kernel_rfl) ?_) | (refine vf_of (by first | exact hK) ?_))
      · have j0 : s1.tmp 0 = .sv (.int .i64 0) := (hk.tmp 0 (by simp only [tmp_put, reduceIte, Nat.reduceEqDiff, i0]; rfl)).trans (by simp only [tmp_put, reduceIte, Nat.reduceEqDiff, i0]; rfl)
        repeat (first | (simp only [go_sem, j0]) | (simp (disch := (first | omega | (simp only [AL, List.length_map]; omega))) only [AR, AL, ifT, ifF, take_all, List.length_cons, List.length_nil, Int.reduceToNat, Int.reducePow, Nat.reducePow, j0]) | (refine wk_intro (by kernel_rfl) ?_) | (refine vf_of (by first | exact hK) ?_))
    · obtain ⟨hp, hat⟩ := nm_first (min i 16) (by omega) (by omega)
      have hp := posB_ok hp
      have hM : min i 16 ≤ 16 := by omega
      have ec : rvsC [1] = [.bool false, natV [1], natV [1]] := by kernel_rfl
      have hz : ∀ q ∈ [(1 : Rat)], szR q 2 := by
        intro q hq
        rw [List.mem_singleton.1 hq]
        exact int_szR (n := 1) (by omega)
      have hc := sess_copied (rvsC_row (L := 2) [1] hz) (by omega) (by omega) (by decide)
      rw [ec] at hc
      generalize min i 16 = M at *
      generalize namesE M = E at *
      repeat (first | (simp only [go_sem, i0, i3, i4]) | (simp (disch := (first | omega | (simp only [AL, List.length_map]; omega))) only [AR, AL, ifT, ifF, take_all, List.length_cons, List.length_nil, Int.reduceToNat, Int.reducePow, Nat.reducePow, i0, i3, i4]) | (refine wk_intro (by kernel_rfl) ?_) | (refine vf_of (by first | exact hI) ?_))
      refine sess_Set_own (t := [97, 48]) (es := E) (p := 0) (D := 6) (m := 1) (g2 := s.gen 51) (cs := [.bool false, natV [1], natV [1]]) (rs := [.bool false, natV [1], natV [1]]) (by decide) (nm_name 0 (by omega)) hp (by omega) (by omega) hat rfl hc (hS.of rfl (fun _ => rfl) (Nat.le_refl _)) ?_ ?_
      · simp only [obj_new, gen_put, and_self, if_true]
      intro s1 hk hs1
      have j0 : s1.tmp 0 = .sv (.int .i64 (i : Int)) := (hk.tmp 0 (by simp only [tmp_put, tmp_new, reduceIte, Nat.reduceEqDiff, i0]; rfl)).trans (by simp only [tmp_put, tmp_new, reduceIte, Nat.reduceEqDiff, i0])
      have j3 : s1.tmp 3 = .ptr 2000013 1 0 := (hk.tmp 3 (by simp only [tmp_put, tmp_new, reduceIte, Nat.reduceEqDiff, i3]; rfl)).trans (by simp only [tmp_put, tmp_new, reduceIte, Nat.reduceEqDiff, i3])
      have j48 : s1.tmp 48 = .sv (.bool true) := hk.tmp 48 rfl
      clear hk i0 i3 i4
      repeat (first | (simp only [go_sem, j0, j3, j48, beq_self_eq_true, Bool.not_true]) | (simp (disch := (first | omega | (simp only [AL, List.length_map]; omega))) only [AR, AL, ifT, ifF, take_all, List.length_cons, List.length_nil, Int.reduceToNat, Int.reducePow, Nat.reducePow, j0, j3, j48, beq_self_eq_true, Bool.not_true]) | (refine wk_intro (by kernel_rfl) ?_))
      have hEl : (E.set 0 ([97, 48], 1, [SV.bool false, natV [1], natV [1]])).length = M := by rw [List.length_set, hL]
      generalize E.set 0 ([97, 48], 1, [SV.bool false, natV [1], natV [1]]) = E2 at *
      refine sess_Names (es := E2) (D := 6) (by omega) (hs1.of rfl (fun _ => rfl) (Nat.le_refl _)) ?_
      intro s2 tv hk2 hs2 htv
      have m0 : s2.tmp 0 = .sv (.int .i64 (i : Int)) := (hk2.tmp 0 (by simp only [tmp_put, reduceIte, Nat.reduceEqDiff, j0]; rfl)).trans (by simp only [tmp_put, reduceIte, Nat.reduceEqDiff, j0])
      have hMi : ((M : Nat) : Int) = if (16 : Int) < (i : Int) then 16 else (i : Int) := by
        rw [← hmn]
        split <;> split <;> omega
      rcases htv with ⟨hE0, rfl⟩ | ⟨g', rfl, _⟩
      · subst hE0
        exfalso
        have : M = 0 := hEl.symm
        subst this
        unfold isAt at hat
        rw [Bool.and_eq_true] at hat
        have := of_decide_eq_true hat.1
        omega
      · rw [hEl]
        repeat (first | (simp only [go_sem, m0, ← hMi, beq_self_eq_true]) | (simp (disch := (first | omega | (simp only [AL, List.length_map]; omega))) only [AR, AL, ifT, ifF, take_all, List.length_cons, List.length_nil, Int.reduceToNat, Int.reducePow, Nat.reducePow, m0, ← hMi, beq_self_eq_true]) | (refine wk_intro (by kernel_rfl) ?_) | (refine vf_of (by first | exact hK) ?_))
  · have hi30 : i < 30 := by omega
    have hnm := nm_name i hi30
    have t1 : ((i : Int).tmod 26) = ((i % 26 : Nat) : Int) := by rw [Int.tmod_eq_emod_of_nonneg (by omega)]; omega
    have t2 : ((i : Int).tdiv 26) = ((i / 26 : Nat) : Int) := by rw [Int.tdiv_eq_ediv_of_nonneg (by omega)]; omega
    have e1 : IntKind.u8.wrap (IntKind.i64.wrap (97 + ((i % 26 : Nat) : Int))) = ((97 + i % 26 : Nat) : Int) := by
      rw [IntKind.wrap_i64, IntKind.wrap_u8]
      omega
    have e2 : IntKind.u8.wrap (IntKind.i64.wrap (48 + IntKind.i64.wrap ((i / 26 : Nat) : Int))) = ((48 + i / 26 : Nat) : Int) := by
      rw [IntKind.wrap_i64, IntKind.wrap_i64, IntKind.wrap_u8]
      omega
    have e3 : ((48 : Int) + ((i / 26 : Nat) : Int)).toNat = 48 + i / 26 := by omega
    have hnb : [UInt8.ofNat (97 + i % 26), UInt8.ofNat (48 + i / 26)] = nmB i := rfl
    by_cases h16 : i < 16
    · have hmin : min i 16 = i := by omega
      rw [hmin] at hS
      have hp := posB_ok (nm_end i h16)
      have hL := namesE_len i
      have hp' : PosAt (namesE i) (nmB i) (namesE i).length := by rw [hL]; exact hp
      have hdd : decide ((i : Int) < 16) = true := decide_eq_true (by omega)
      repeat (first | (simp only [go_sem, i0, i3, i4, t1, t2, e1, e2, e3, ub_bytes, ub_str, bytesOf, Int.toNat_natCast, mk_bs, hnb]) | (simp (disch := (first | omega | (simp only [AL, List.length_map]; omega))) only [AR, AL, ifT, ifF, take_all, List.length_cons, List.length_nil, Int.reduceToNat, Int.reducePow, Nat.reducePow, i0, i3, i4, t1, t2, e1, e2, e3, ub_bytes, ub_str, bytesOf, Int.toNat_natCast, mk_bs, hnb]) | (refine wk_intro (by kernel_rfl) ?_))
      refine sess_Set_end (t := nmB i) (es := namesE i) (D := 6) (by simp [nmB]) hnm hp' (by omega) (by omega) copied_nil (.inr ⟨rfl, rfl, rfl⟩) (hS.frz (d2 := 30) (by decide) rfl (fun g1 => by simp only [obj_put, obj_frzd, obj_new, reduceIte, Nat.reduceEqDiff, false_and]) (by simp only [gen_put, gen_frzd, gen_new, reduceIte, Nat.reduceEqDiff]; exact Nat.le_refl _)) ?_
      intro s1 hk hs1
      have j0 : s1.tmp 0 = .sv (.int .i64 (n : Int)) := (hk.tmp 0 (by simp only [tmp_put, tmp_frzd, tmp_new, reduceIte, Nat.reduceEqDiff, TV.frz, false_and, i0]; rfl)).trans (by simp only [tmp_put, tmp_frzd, tmp_new, reduceIte, Nat.reduceEqDiff, TV.frz, false_and, i0])
      have j3 : s1.tmp 3 = .ptr 2000013 1 0 := (hk.tmp 3 (by simp only [tmp_put, tmp_frzd, tmp_new, reduceIte, Nat.reduceEqDiff, TV.frz, false_and, i3]; rfl)).trans (by simp only [tmp_put, tmp_frzd, tmp_new, reduceIte, Nat.reduceEqDiff, TV.frz, false_and, i3])
      have j4 : s1.tmp 4 = .sv (.int .i64 (i : Int)) := (hk.tmp 4 (by simp only [tmp_put, tmp_frzd, tmp_new, reduceIte, Nat.reduceEqDiff, TV.frz, false_and, i4]; rfl)).trans (by simp only [tmp_put, tmp_frzd, tmp_new, reduceIte, Nat.reduceEqDiff, TV.frz, false_and, i4])
      rw [← namesE_succ] at hs1
      clear hk hS i0 i3 i4
      repeat (first | (simp only [go_sem, j0, j3, j4, hdd, beq_self_eq_true, Bool.not_true, Bool.not_false]) | (simp (disch := (first | omega | (simp only [AL, List.length_map]; omega))) only [AR, AL, ifT, ifF, take_all, List.length_cons, List.length_nil, Int.reduceToNat, Int.reducePow, Nat.reducePow, j0, j3, j4, hdd, beq_self_eq_true, Bool.not_true, Bool.not_false]) | (refine wk_intro (by kernel_rfl) ?_))
      refine ⟨⟨i + 1, rfl, by omega, ?_⟩, by omega⟩
      rw [show min (i + 1) 16 = i + 1 by omega]
      exact hs1.of rfl (fun _ => rfl) (Nat.le_refl _)
    · have hmin : min i 16 = 16 := by omega
      rw [hmin] at hS
      obtain ⟨hp, hat⟩ := nm_full i hi30 (by omega)
      have hp := posB_ok hp
      have hL := namesE_len 16
      have hdd : decide ((i : Int) < 16) = false := decide_eq_false (by omega)
      repeat (first | (simp only [go_sem, i0, i3, i4, t1, t2, e1, e2, e3, ub_bytes, ub_str, bytesOf, Int.toNat_natCast, mk_bs, hnb]) | (simp (disch := (first | omega | (simp only [AL, List.length_map]; omega))) only [AR, AL, ifT, ifF, take_all, List.length_cons, List.length_nil, Int.reduceToNat, Int.reducePow, Nat.reducePow, i0, i3, i4, t1, t2, e1, e2, e3, ub_bytes, ub_str, bytesOf, Int.toNat_natCast, mk_bs, hnb]) | (refine wk_intro (by kernel_rfl) ?_))
      refine sess_Set_full (t := nmB i) (es := namesE 16) (D := 6) (m := 0) (cs := []) (by simp [nmB]) hnm hp (by omega) (by omega) hat (.inr ⟨rfl, rfl, rfl⟩) (hS.frz (d2 := 30) (by decide) rfl (fun g1 => by simp only [obj_put, obj_frzd, obj_new, reduceIte, Nat.reduceEqDiff, false_and]) (by simp only [gen_put, gen_frzd, gen_new, reduceIte, Nat.reduceEqDiff]; exact Nat.le_refl _)) ?_
      intro s1 hk hs1
      have j0 : s1.tmp 0 = .sv (.int .i64 (n : Int)) := (hk.tmp 0 (by simp only [tmp_put, tmp_frzd, tmp_new, reduceIte, Nat.reduceEqDiff, TV.frz, false_and, i0]; rfl)).trans (by simp only [tmp_put, tmp_frzd, tmp_new, reduceIte, Nat.reduceEqDiff, TV.frz, false_and, i0])
      have j3 : s1.tmp 3 = .ptr 2000013 1 0 := (hk.tmp 3 (by simp only [tmp_put, tmp_frzd, tmp_new, reduceIte, Nat.reduceEqDiff, TV.frz, false_and, i3]; rfl)).trans (by simp only [tmp_put, tmp_frzd, tmp_new, reduceIte, Nat.reduceEqDiff, TV.frz, false_and, i3])
      have j4 : s1.tmp 4 = .sv (.int .i64 (i : Int)) := (hk.tmp 4 (by simp only [tmp_put, tmp_frzd, tmp_new, reduceIte, Nat.reduceEqDiff, TV.frz, false_and, i4]; rfl)).trans (by simp only [tmp_put, tmp_frzd, tmp_new, reduceIte, Nat.reduceEqDiff, TV.frz, false_and, i4])
      clear hk hS i0 i3 i4
      have hb : ((7 : Int) == 0) = false := rfl
      repeat (first | (simp only [go_sem, j0, j3, j4, hdd, hb, beq_self_eq_true, Bool.not_true, Bool.not_false]) | (simp (disch := (first | omega | (simp only [AL, List.length_map]; omega))) only [AR, AL, ifT, ifF, take_all, List.length_cons, List.length_nil, Int.reduceToNat, Int.reducePow, Nat.reducePow, j0, j3, j4, hdd, hb, beq_self_eq_true, Bool.not_true, Bool.not_false]) | (refine wk_intro (by kernel_rfl) ?_))
      refine ⟨⟨i + 1, rfl, by omega, ?_⟩, by omega⟩
      rw [show min (i + 1) 16 = 16 by omega]
      exact hs1.of rfl (fun _ => rfl) (Nat.le_refl _)
end Go.Proofs.YticocojomlfhgaaGreatDoor
