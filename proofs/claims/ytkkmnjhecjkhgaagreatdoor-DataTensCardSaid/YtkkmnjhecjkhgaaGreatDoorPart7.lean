/- Part 7 of the proof: the evaluator, contracts of functions and their plain laws (joined by program). No condition. -/
import Derived.Test.YtkkmnjhecjkhgaaGreatDoorPart6
set_option linter.unusedVariables false
set_option linter.unusedSimpArgs false
set_option maxRecDepth 100000
namespace Go.Proofs.YtkkmnjhecjkhgaaGreatDoor
open Go.Ev
theorem set_splice {cs : List SV} {i : Nat} {v : SV} (h : i < cs.length) : cs.take i ++ [v] ++ cs.drop (i + 1) = cs.set i v := by
  rw [List.set_eq_take_append_cons_drop, if_pos h]
  simp
theorem exp_rev {s : St} {cs : List SV} {n : Nat} : expOf s [.impref cs 1 0 n] = [s.obj 1000000 0] := rfl
theorem rev_fn (D : List UInt8) (rest : List SV) (hl : D.length ≤ 1099511627776) : ∃ r exps, (r = .tup [] ∧ exps = [some (u8c D.reverse ++ rest)]) ∧
    FnI CX 119 [.impref (u8c D ++ rest) 1 0 D.length] r exps := by
  refine FnI_of (fn := Tryz.f119) (body := (Tryz.f119).body.get!) (by kernel_rfl) (by kernel_rfl) (by kernel_rfl) (fun _ => rfl) (Nat.le_of_ble_eq_true (by kernel_rfl)) ?_
  unfold Tryz.f119
  simp only [Option.get!_some, exp_rev]
  generalize hn : D.length = n at *
  have hD : ∀ k, k < n → (u8c D ++ rest)[k]? = some (.int .u8 ((D.getD k 0).toNat : Int)) := by
    intro k hk
    rw [List.getElem?_append_left (by rw [u8c_len]; omega)]
    unfold u8c
    rw [List.getElem?_map, List.getD_eq_getElem?_getD, List.getElem?_eq_getElem (by omega)]
    rfl
  have hN : n ≤ (u8c D ++ rest).length := by rw [List.length_append, u8c_len]; omega
  have hfin : ∀ cs : List SV, cs.length = (u8c D ++ rest).length → (∀ k, cs[k]? = if k < n then (u8c D ++ rest)[n - 1 - k]? else (u8c D ++ rest)[k]?) → cs = u8c D.reverse ++ rest := by
    intro cs h1 h2
    refine List.ext_getElem? fun k => ?_
    rw [h2 k]
    split
    · rename_i hk
      rw [hD _ (by omega), List.getElem?_append_left (by rw [u8c_len, List.length_reverse]; omega)]
      unfold u8c
      rw [List.getElem?_map, List.getElem?_reverse (by omega), List.getD_eq_getElem?_getD, hn, List.getElem?_eq_getElem (by omega)]
      rfl
    · rw [List.getElem?_append_right (by rw [u8c_len]; omega), List.getElem?_append_right (by rw [u8c_len, List.length_reverse]; omega), u8c_len, u8c_len, List.length_reverse]
  generalize hcs : u8c D ++ rest = C0 at *
  generalize hR : u8c D.reverse ++ rest = R at *
  repeat (first | (simp only [go_sem, Nat.reduceEqDiff, Nat.reduceAdd, Nat.reduceSub, Nat.reduceMul, Nat.reduceLeDiff, Nat.reduceLT, reduceIte, reduceCtorEq, Nat.succ_ne_zero, elemsC, Int.reduceToNat, Nat.reducePow, N0]) | (simp (disch := (first | omega | (simp only [AL, List.length_map]; omega))) only [AR, AL, ifT, ifF, take_all, List.length_cons, List.length_nil, Int.reduceToNat, Int.reducePow, Nat.reducePow, N0]) | (refine wk_intro (by kernel_rfl) ?_) | (refine vp_draw (l := []) (by kernel_rfl) ?_))
  refine vp_loop_inv (fun s => s.tmp 0 = .ref 1000000 0 1 0 n ∧ ∃ (i : Nat) (j : Int) (cs : List SV), s.tmp 2 = .sv (.int .i64 (i : Int)) ∧ s.tmp 3 = .sv (.int .i64 j) ∧ s.obj 1000000 0 = some cs ∧ (i : Int) + j + 1 = n ∧ (i : Int) ≤ j + 2 ∧ cs.length = C0.length ∧
      ∀ k : Nat, cs[k]? = if k < n ∧ (k < i ∨ n ≤ k + i) then C0[n - 1 - k]? else C0[k]?)
    (fun s => match s.tmp 2 with | .sv (.int _ i) => n - i.toNat | _ => 0) ?_ ?_
  · refine ⟨rfl, 0, _, C0, rfl, rfl, rfl, by omega, by omega, rfl, fun k => ?_⟩
    rw [if_neg (by omega)]
  rintro s ⟨i0, i, j, cs, i2, i3, iO, hij, hle, hlen, hk⟩
  by_cases hend : (i : Int) < j
  · obtain ⟨m, rfl⟩ : ∃ m : Nat, j = m := ⟨j.toNat, by omega⟩
    have hi' := hk i
    rw [if_neg (by omega), hD i (by omega)] at hi'
    have hm' := hk m
    rw [if_neg (by omega), hD m (by omega)] at hm'
    have h1 : (cs.drop i).head? = some (.int .u8 ((D.getD i 0).toNat : Int)) := by rw [List.head?_drop]; exact hi'
    have h2 : (cs.drop m).head? = some (.int .u8 ((D.getD m 0).toNat : Int)) := by rw [List.head?_drop]; exact hm'
    generalize hx : (D.getD i 0).toNat = x at *
    generalize hy : (D.getD m 0).toNat = y at *
    have s1 : cs.take i ++ [SV.int .u8 (y : Int)] ++ cs.drop (i + 1) = cs.set i (.int .u8 (y : Int)) := set_splice (by omega)
    have s2 : (cs.set i (.int .u8 (y : Int))).take m ++ [SV.int .u8 (x : Int)] ++ (cs.set i (.int .u8 (y : Int))).drop (m + 1) = (cs.set i (.int .u8 (y : Int))).set m (.int .u8 (x : Int)) := set_splice (by rw [List.length_set]; omega)
    have l2 : (cs.set i (.int .u8 (y : Int))).length = cs.length := List.length_set
    repeat (first | (simp only [go_sem, Nat.reduceEqDiff, Nat.reduceAdd, Nat.reduceSub, Nat.reduceMul, Nat.reduceLeDiff, Nat.reduceLT, reduceIte, reduceCtorEq, Nat.succ_ne_zero, elemsC, Int.reduceToNat, Nat.reducePow, i0, i2, i3, iO, h1, h2, hlen, s1, s2, l2]) | (simp (disch := (first | omega | (simp only [AL, List.length_map]; omega))) only [AR, AL, ifT, ifF, take_all, List.length_cons, List.length_nil, Int.reduceToNat, Int.reducePow, Nat.reducePow, i0, i2, i3, iO, h1, h2, hlen, s1, s2, l2]) | (refine wk_intro (by kernel_rfl) ?_) | (refine vp_draw (l := []) (by kernel_rfl) ?_))
    refine ⟨⟨i + 1, ((m - 1 : Nat) : Int), _, rfl, rfl, rfl, by omega, by omega, by rw [List.length_set, List.length_set]; exact hlen, fun k => ?_⟩, by omega⟩
    by_cases hkm : m = k
    · subst hkm
      rw [List.getElem?_set_self (by rw [List.length_set]; omega), if_pos (by omega), show n - 1 - m = i by omega, hD i (by omega), hx]
    · rw [List.getElem?_set_ne hkm]
      by_cases hki : i = k
      · subst hki
        rw [List.getElem?_set_self (by omega), if_pos (by omega), show n - 1 - i = m by omega, hD m (by omega), hy]
      · rw [List.getElem?_set_ne hki, hk k]
        by_cases hc : k < n ∧ (k < i ∨ n ≤ k + i)
        · rw [if_pos hc, if_pos (by omega)]
        · rw [if_neg hc, if_neg (by omega)]
  · have he : cs = R := by
      refine hfin cs hlen fun k => ?_
      rw [hk k]
      by_cases hkn : k < n
      · rw [if_pos hkn]
        by_cases hc : k < n ∧ (k < i ∨ n ≤ k + i)
        · rw [if_pos hc]
        · rw [if_neg hc]
          congr 1
          omega
      · rw [if_neg hkn, if_neg (by omega)]
    subst he
    repeat (first | (simp only [go_sem, Nat.reduceEqDiff, Nat.reduceAdd, Nat.reduceSub, Nat.reduceMul, Nat.reduceLeDiff, Nat.reduceLT, reduceIte, reduceCtorEq, Nat.succ_ne_zero, elemsC, Int.reduceToNat, Nat.reducePow, i0, i2, i3, iO]) | (simp (disch := (first | omega | (simp only [AL, List.length_map]; omega))) only [AR, AL, ifT, ifF, take_all, List.length_cons, List.length_nil, Int.reduceToNat, Int.reducePow, Nat.reducePow, i0, i2, i3, iO]) | (refine wk_intro (by kernel_rfl) ?_) | (refine vp_draw (l := []) (by kernel_rfl) ?_))
    exact ⟨_, _, ⟨rfl, rfl⟩, rfl, rfl⟩
theorem u_bytes : Tryz.prog.underlying 51 = some (.slice 5) := by kernel_rfl
theorem u_str : Tryz.prog.underlying 9 = some .string := by kernel_rfl
theorem u_byte : isInt Tryz.prog 5 = some .u8 := by kernel_rfl
theorem dig_ix (r : Nat) : ([48, 49, 50, 51, 52, 53, 54, 55, 56, 57] : List UInt8)[r % 10]? = some (UInt8.ofNat (48 + r % 10)) := by
  have key : ∀ k : Nat, k < 10 → ([48, 49, 50, 51, 52, 53, 54, 55, 56, 57] : List UInt8)[k]? = some (UInt8.ofNat (48 + k)) := by decide
  exact key _ (Nat.mod_lt _ (by omega))
theorem u8c_snoc (l : List UInt8) (b : UInt8) : u8c l ++ [SV.int .u8 (b.toNat : Int)] = u8c (l ++ [b]) := by simp [u8c]
theorem len_of_dec {L : List UInt8} {n m K : Nat} (hn : n < 10 ^ K) (h : natLE L + 10 ^ L.length * m = n) (hm : m ≠ 0) : L.length < K := by
  have h1 : 10 ^ L.length * 1 ≤ 10 ^ L.length * m := Nat.mul_le_mul_left _ (by omega)
  exact (Nat.pow_lt_pow_iff_right (a := 10) (by omega)).1 (by omega)
theorem nat_Print (n K : Nat) (hK : n < 10 ^ K) (hk : K ≤ 400) : Go.Ev.Fn CX 79 [natV (lim n)] (.str (bs (dec n))) := by
  have hlim := lim_ten hK
  have hT := nat_Trim (lim n) (okL_lim _) (by omega)
  rw [wth_lim] at hT
  by_cases hn : n = 0
  · subst hn
    rw [show dec 0 = [48] from rfl]
    rw [lim_zero] at hT ⊢
    refine Go.Ev.Fn.intro (fn := Tryz.f79) (body := (Tryz.f79).body.get!) (by kernel_rfl) (by kernel_rfl) (by kernel_rfl) (fun _ => rfl) (Nat.le_of_ble_eq_true (by kernel_rfl)) ?_; unfold Tryz.f79; simp only [Option.get!_some]
    repeat (first | (simp only [go_sem, Nat.reduceEqDiff, Nat.reduceAdd, Nat.reduceSub, Nat.reduceMul, Nat.reduceLeDiff, Nat.reduceLT, reduceIte, reduceCtorEq, Nat.succ_ne_zero, elemsC, Int.reduceToNat, Nat.reducePow, mk_bs]) | (simp (disch := (first | omega | (simp only [AL, List.length_map]; omega))) only [AR, AL, ifT, ifF, take_all, List.length_cons, List.length_nil, Int.reduceToNat, Int.reducePow, Nat.reducePow, mk_bs]) | (refine wk_intro (by kernel_rfl) ?_) | (refine vf_of (by first | exact hT) ?_))
  have hpos := lim_pos hn
  refine Go.Ev.Fn.intro (fn := Tryz.f79) (body := (Tryz.f79).body.get!) (by kernel_rfl) (by kernel_rfl) (by kernel_rfl) (fun _ => rfl) (Nat.le_of_ble_eq_true (by kernel_rfl)) ?_; unfold Tryz.f79; simp only [Option.get!_some]
  repeat (first | (simp only [go_sem, Nat.reduceEqDiff, Nat.reduceAdd, Nat.reduceSub, Nat.reduceMul, Nat.reduceLeDiff, Nat.reduceLT, reduceIte, reduceCtorEq, Nat.succ_ne_zero, elemsC, Int.reduceToNat, Nat.reducePow]) | (simp (disch := (first | omega | (simp only [AL, List.length_map]; omega))) only [AR, AL, ifT, ifF, take_all, List.length_cons, List.length_nil, Int.reduceToNat, Int.reducePow, Nat.reducePow]) | (refine wk_intro (by kernel_rfl) ?_) | (refine vf_of (by first | exact hT) ?_))
  refine vp_mono (R := fun e s => e = .exit 0 ∧ ∃ l : List UInt8, s.tmp 3 = .ref 26 0 1 0 l.length ∧ s.obj 26 0 = some (u8c l) ∧ digs l = true ∧ natLE l = n ∧ l.length ≤ 1000) ?_ ?_
  · refine vp_loop_inv (fun s => ∃ (m : Nat) (L : List UInt8), s.tmp 0 = .sv (natV (lim m)) ∧ m ≤ n ∧ digs L = true ∧ natLE L + 10 ^ L.length * m = n ∧ L.length ≤ 409 ∧
        ((L = [] ∧ s.tmp 3 = .nil ∧ s.gen 26 = 0) ∨ (L ≠ [] ∧ s.tmp 3 = .ref 26 0 1 0 L.length ∧ s.obj 26 0 = some (u8c L))))
      (fun s => match s.tmp 0 with | .sv (.sl _ cs) => (match decL cs with | some l => wth l | none => 0) | _ => 0) ?_ ?_
    · exact ⟨n, [], rfl, Nat.le_refl _, rfl, by simp [natLE], by simp, .inl ⟨rfl, rfl, rfl⟩⟩
    rintro s ⟨m, L, i0, hmn, hdL, hv, hL, hc⟩
    by_cases hm : m = 0
    · subst hm
      rw [Nat.mul_zero, Nat.add_zero] at hv
      rcases hc with ⟨rfl, _⟩ | ⟨_, i3, iO⟩
      · exact absurd hv.symm hn
      · rw [lim_zero] at i0
        repeat (first | (simp only [go_sem, Nat.reduceEqDiff, Nat.reduceAdd, Nat.reduceSub, Nat.reduceMul, Nat.reduceLeDiff, Nat.reduceLT, reduceIte, reduceCtorEq, Nat.succ_ne_zero, elemsC, Int.reduceToNat, Nat.reducePow, i0, i3, iO]) | (simp (disch := (first | omega | (simp only [AL, List.length_map]; omega))) only [AR, AL, ifT, ifF, take_all, List.length_cons, List.length_nil, Int.reduceToNat, Int.reducePow, Nat.reducePow, i0, i3, iO]) | (refine wk_intro (by kernel_rfl) ?_))
        exact ⟨L, rfl, rfl, hdL, hv, by omega⟩
    · have hLl := len_of_dec hK hv hm
      have h1 := lim_pos hm
      have h2 := lim_ten (Nat.lt_of_le_of_lt hmn hK)
      have hs := nat_small (lim m) 1000000000 (okL_lim _) (by omega) (by omega) (by omega)
      rw [wth_lim] at hs
      have hr0 : m % 1000000000 < 1000000000 := Nat.mod_lt _ (by omega)
      have hdm : m % 1000000000 + 1000000000 * (m / 1000000000) = m := Nat.mod_add_div _ _
      have hlt : m / 1000000000 < m := Nat.div_lt_self (by omega) (by omega)
      generalize hr : m % 1000000000 = r0 at *
      generalize hq : m / 1000000000 = q at *
      repeat (first | (simp only [go_sem, Nat.reduceEqDiff, Nat.reduceAdd, Nat.reduceSub, Nat.reduceMul, Nat.reduceLeDiff, Nat.reduceLT, reduceIte, reduceCtorEq, Nat.succ_ne_zero, elemsC, Int.reduceToNat, Nat.reducePow, i0]) | (simp (disch := (first | omega | (simp only [AL, List.length_map]; omega))) only [AR, AL, ifT, ifF, take_all, List.length_cons, List.length_nil, Int.reduceToNat, Int.reducePow, Nat.reducePow, i0]) | (refine wk_intro (by kernel_rfl) ?_) | (refine vf_of (by first | exact hs) ?_))
      refine vp_loop_inv (fun s' => s'.tmp 4 = .sv (natV (lim q)) ∧ ∃ i : Nat, s'.tmp 19 = .sv (.int .i64 (i : Int)) ∧ i ≤ 9 ∧ s'.tmp 5 = .sv (limb (r0 / 10 ^ i)) ∧
          ((L ++ dgN i r0 = [] ∧ s'.tmp 3 = .nil ∧ s'.gen 26 = 0) ∨ (L ++ dgN i r0 ≠ [] ∧ s'.tmp 3 = .ref 26 0 1 0 (L ++ dgN i r0).length ∧ s'.obj 26 0 = some (u8c (L ++ dgN i r0)))))
        (fun s => match s.tmp 19 with | .sv (.int _ i) => 9 - i.toNat | _ => 0) ?_ ?_
      · refine ⟨rfl, 0, rfl, by omega, by rw [Nat.pow_zero, Nat.div_one]; rfl, ?_⟩
        rw [show dgN 0 r0 = [] from rfl, List.append_nil]
        exact hc
      rintro s2 ⟨j4, i, j19, hi, j5, hc2⟩
      have hlen : (L ++ dgN i r0).length ≤ 500 := by rw [List.length_append, dgN_len]; omega
      by_cases hend : i = 9
      · subst hend
        have hL9 : L ++ dgN 9 r0 ≠ [] := by
          intro h
          have := congrArg List.length h
          rw [List.length_append, dgN_len] at this
          simp at this
        rcases hc2 with ⟨h0, _⟩ | ⟨_, j3, jO⟩
        · exact absurd h0 hL9
        · repeat (first | (simp only [go_sem, Nat.reduceEqDiff, Nat.reduceAdd, Nat.reduceSub, Nat.reduceMul, Nat.reduceLeDiff, Nat.reduceLT, reduceIte, reduceCtorEq, Nat.succ_ne_zero, elemsC, Int.reduceToNat, Nat.reducePow, j4, j19, j5, j3, jO]) | (simp (disch := (first | omega | (simp only [AL, List.length_map]; omega))) only [AR, AL, ifT, ifF, take_all, List.length_cons, List.length_nil, Int.reduceToNat, Int.reducePow, Nat.reducePow, j4, j19, j5, j3, jO]) | (refine wk_intro (by kernel_rfl) ?_))
          refine ⟨⟨q, L ++ dgN 9 r0, rfl, by omega, ?_, ?_, by rw [List.length_append, dgN_len]; omega, .inr ⟨hL9, by rw [List.length_append], rfl⟩⟩, ?_⟩
          · rw [digs_app, hdL, dgN_digs]; rfl
          · rw [natLE_append, natLE_dgN, List.length_append, dgN_len, Nat.mod_eq_of_lt hr0, ← hv, ← hdm, Nat.pow_add, Nat.mul_add]
            have : 10 ^ L.length * 10 ^ 9 * q = 10 ^ L.length * (1000000000 * q) := by rw [Nat.mul_assoc]
            omega
          · rw [decL_map (okL_lim _), decL_map (okL_lim _)]
            dsimp only
            rw [wth_lim, wth_lim]
            exact hlt
      · have hx := dig_ix (r0 / 10 ^ i)
        have hsn : dgN (i + 1) r0 = dgN i r0 ++ [UInt8.ofNat (48 + r0 / 10 ^ i % 10)] := dgN_snoc i r0
        have hdd : r0 / 10 ^ i / 10 = r0 / 10 ^ (i + 1) := by rw [Nat.div_div_eq_div_mul, ← Nat.pow_succ]
        have hx32 : r0 / 10 ^ i < 1000000000 := Nat.lt_of_le_of_lt (Nat.div_le_self _ _) hr0
        have hap := u8c_snoc (L ++ dgN i r0) (UInt8.ofNat (48 + r0 / 10 ^ i % 10))
        rw [List.append_assoc, ← hsn] at hap
        have hlen1 : (L ++ dgN (i + 1) r0).length = (L ++ dgN i r0).length + 1 := by rw [List.length_append, List.length_append, dgN_len, dgN_len]; omega
        have hne1 : L ++ dgN (i + 1) r0 ≠ [] := by intro h; rw [h] at hlen1; simp at hlen1
        have hcl := u8c_len (L ++ dgN i r0)
        generalize hL2 : L ++ dgN (i + 1) r0 = L2 at *
        have hL3 : L.length + (dgN (i + 1) r0).length = L2.length := by rw [← hL2, List.length_append]
        generalize L ++ dgN i r0 = L1 at *
        generalize r0 / 10 ^ i = x at *
        have e10 : (x : Int).tmod 10 = ((x % 10 : Nat) : Int) := by rw [Int.tmod_eq_emod_of_nonneg (by omega)]; omega
        have e11 : (x : Int).tdiv 10 = ((x / 10 : Nat) : Int) := by rw [Int.tdiv_eq_ediv_of_nonneg (by omega)]; omega
        generalize UInt8.ofNat (48 + x % 10) = b at *
        clear hdm hlt hv hr0 hsn hLl
        rcases hc2 with ⟨h0, j3, jg⟩ | ⟨h0, j3, jO⟩
        · subst h0
          simp only [u8c, List.map_nil, List.nil_append] at hap
          repeat (first | (simp only [go_sem, Nat.reduceEqDiff, Nat.reduceAdd, Nat.reduceSub, Nat.reduceMul, Nat.reduceLeDiff, Nat.reduceLT, reduceIte, reduceCtorEq, Nat.succ_ne_zero, elemsC, Int.reduceToNat, Nat.reducePow, j4, j19, j5, j3, jg, mk_bs, vo_ix, idxB_bs, hx, e10, e11, Int.toNat_natCast]) | (simp (disch := (first | omega | (simp only [AL, List.length_map]; omega))) only [AR, AL, ifT, ifF, take_all, List.length_cons, List.length_nil, Int.reduceToNat, Int.reducePow, Nat.reducePow, j4, j19, j5, j3, jg, mk_bs, vo_ix, idxB_bs, hx, e10, e11, Int.toNat_natCast]) | (refine wk_intro (by kernel_rfl) ?_))
          exact ⟨⟨i + 1, rfl, by omega, by rw [← hdd], .inr ⟨by rw [hL2]; exact hne1, by rw [hL3, hlen1]; rfl, by rw [hL2]; exact hap⟩⟩, by omega⟩
        · repeat (first | (simp only [go_sem, Nat.reduceEqDiff, Nat.reduceAdd, Nat.reduceSub, Nat.reduceMul, Nat.reduceLeDiff, Nat.reduceLT, reduceIte, reduceCtorEq, Nat.succ_ne_zero, elemsC, Int.reduceToNat, Nat.reducePow, j4, j19, j5, j3, jO, mk_bs, vo_ix, idxB_bs, hx, hcl, e10, e11, Int.toNat_natCast, N0]) | (simp (disch := (first | omega | (simp only [AL, List.length_map]; omega))) only [AR, AL, ifT, ifF, take_all, List.length_cons, List.length_nil, Int.reduceToNat, Int.reducePow, Nat.reducePow, j4, j19, j5, j3, jO, mk_bs, vo_ix, idxB_bs, hx, hcl, e10, e11, Int.toNat_natCast, N0]) | (refine wk_intro (by kernel_rfl) ?_))
          exact ⟨⟨i + 1, rfl, by omega, by rw [← hdd], .inr ⟨by rw [hL2]; exact hne1, by first | rw [hL3, hlen1] | rw [hL2, hlen1], by rw [hL2]; first | exact hap | (rw [← hap])⟩⟩, by omega⟩
  rintro e s ⟨rfl, l, i3, iO, hd, hv, hl⟩
  repeat (first | (simp only [go_sem, Nat.reduceEqDiff, Nat.reduceAdd, Nat.reduceSub, Nat.reduceMul, Nat.reduceLeDiff, Nat.reduceLT, reduceIte, reduceCtorEq, Nat.succ_ne_zero, elemsC, Int.reduceToNat, Nat.reducePow]) | (simp (disch := (first | omega | (simp only [AL, List.length_map]; omega))) only [AR, AL, ifT, ifF, take_all, List.length_cons, List.length_nil, Int.reduceToNat, Int.reducePow, Nat.reducePow]) | (refine wk_intro (by kernel_rfl) ?_))
  refine vp_mono (R := fun e s => e = .exit 4 ∧ ∃ rest : List SV, s.tmp 3 = .ref 26 0 1 0 (dgR n).length ∧ s.obj 26 0 = some (u8c (dgR n) ++ rest)) ?_ ?_
  · refine vp_loop_inv (fun s => ∃ (l : List UInt8) (rest : List SV), s.tmp 3 = .ref 26 0 1 0 l.length ∧ s.obj 26 0 = some (u8c l ++ rest) ∧ digs l = true ∧ natLE l = n ∧ l.length ≤ 1000)
      (fun s => match s.tmp 3 with | .ref _ _ _ _ n => n | _ => 0) ⟨l, [], i3, by rw [List.append_nil]; exact iO, hd, hv, hl⟩ ?_
    rintro s ⟨l, rest, i3, iO, hd, hv, hl⟩
    have hcl := u8c_len l
    rcases dgR_strip hd hv hn with ⟨c, h1, h2, h3⟩ | ⟨l', rfl, h2, h3, h4⟩
    · by_cases hl1 : l.length ≤ 1
      · repeat (first | (simp only [go_sem, Nat.reduceEqDiff, Nat.reduceAdd, Nat.reduceSub, Nat.reduceMul, Nat.reduceLeDiff, Nat.reduceLT, reduceIte, reduceCtorEq, Nat.succ_ne_zero, elemsC, Int.reduceToNat, Nat.reducePow, i3, iO]) | (simp (disch := (first | omega | (simp only [AL, List.length_map]; omega))) only [AR, AL, ifT, ifF, take_all, List.length_cons, List.length_nil, Int.reduceToNat, Int.reducePow, Nat.reducePow, i3, iO]) | (refine wk_intro (by kernel_rfl) ?_))
        exact ⟨rest, by rw [← h3], by rw [← h3]⟩
      · have hh : ((u8c l ++ rest).drop (l.length - 1)).head? = some (.int .u8 (c.toNat : Int)) := by
          rw [List.head?_drop, List.getElem?_append_left (by rw [u8c_len]; omega)]
          unfold u8c
          rw [List.getElem?_map, ← List.getLast?_eq_getElem?, h1]
          rfl
        have hc48 : ¬ (c.toNat : Int) = 48 := fun e => h2 (UInt8.toNat_inj.1 (by rw [show (48 : UInt8).toNat = 48 from rfl]; omega))
        repeat (first | (simp only [go_sem, Nat.reduceEqDiff, Nat.reduceAdd, Nat.reduceSub, Nat.reduceMul, Nat.reduceLeDiff, Nat.reduceLT, reduceIte, reduceCtorEq, Nat.succ_ne_zero, elemsC, Int.reduceToNat, Nat.reducePow, i3, iO, hh, hc48]) | (simp (disch := (first | omega | (simp only [AL, List.length_map]; omega))) only [AR, AL, ifT, ifF, take_all, List.length_cons, List.length_nil, Int.reduceToNat, Int.reducePow, Nat.reducePow, i3, iO, hh, hc48]) | (refine wk_intro (by kernel_rfl) ?_))
        exact ⟨rest, by rw [← h3], by rw [← h3]⟩
    · have hl2 : 0 < l'.length := List.length_pos_iff.2 h2
      have hll : (l' ++ [48]).length = l'.length + 1 := by simp
      have hh : ((u8c (l' ++ [48]) ++ rest).drop l'.length).head? = some (.int .u8 48) := by
        rw [u8c_app, List.append_assoc, List.drop_append_of_le_length (by rw [u8c_len]; exact Nat.le_refl _), List.drop_of_length_le (by rw [u8c_len]; exact Nat.le_refl _)]
        rfl
      have e2 : u8c (l' ++ [48]) ++ rest = u8c l' ++ (.int .u8 48 :: rest) := by rw [u8c_app, List.append_assoc]; rfl
      rw [hll] at i3
      repeat (first | (simp only [go_sem, Nat.reduceEqDiff, Nat.reduceAdd, Nat.reduceSub, Nat.reduceMul, Nat.reduceLeDiff, Nat.reduceLT, reduceIte, reduceCtorEq, Nat.succ_ne_zero, elemsC, Int.reduceToNat, Nat.reducePow, i3, iO, hh, Nat.add_sub_cancel]) | (simp (disch := (first | omega | (simp only [AL, List.length_map]; omega))) only [AR, AL, ifT, ifF, take_all, List.length_cons, List.length_nil, Int.reduceToNat, Int.reducePow, Nat.reducePow, i3, iO, hh, Nat.add_sub_cancel]) | (refine wk_intro (by kernel_rfl) ?_))
      exact ⟨⟨l', .int .u8 48 :: rest, rfl, by first | rfl | (rw [← e2]; exact iO) | exact e2, h3, h4, by omega⟩, by omega⟩
  rintro e s ⟨rfl, rest, i3, iO⟩
  repeat (first | (simp only [go_sem, Nat.reduceEqDiff, Nat.reduceAdd, Nat.reduceSub, Nat.reduceMul, Nat.reduceLeDiff, Nat.reduceLT, reduceIte, reduceCtorEq, Nat.succ_ne_zero, elemsC, Int.reduceToNat, Nat.reducePow]) | (simp (disch := (first | omega | (simp only [AL, List.length_map]; omega))) only [AR, AL, ifT, ifF, take_all, List.length_cons, List.length_nil, Int.reduceToNat, Int.reducePow, Nat.reducePow]) | (refine wk_intro (by kernel_rfl) ?_))
  have hdl := dgR_len_le hK
  obtain ⟨r, exps, ⟨rfl, rfl⟩, hf⟩ := rev_fn (dgR n) rest (by omega)
  have htk : (u8c (dgR n).reverse ++ rest).take (dgR n).length = u8c (dec n) := by
    rw [dec_pos hn, List.take_append_of_le_length (by rw [u8c_len, List.length_reverse]; exact Nat.le_refl _), List.take_of_length_le (by rw [u8c_len, List.length_reverse]; exact Nat.le_refl _)]
  have hcl : (u8c (dec n)).length = (dgR n).length := by rw [u8c_len, dec_pos hn, List.length_reverse]
  have hby := u8c_bytes (dec n)
  repeat (first | (simp only [go_sem, Nat.reduceEqDiff, Nat.reduceAdd, Nat.reduceSub, Nat.reduceMul, Nat.reduceLeDiff, Nat.reduceLT, reduceIte, reduceCtorEq, Nat.succ_ne_zero, elemsC, Int.reduceToNat, Nat.reducePow, i3, iO]) | (simp (disch := (first | omega | (simp only [AL, List.length_map]; omega))) only [AR, AL, ifT, ifF, take_all, List.length_cons, List.length_nil, Int.reduceToNat, Int.reducePow, Nat.reducePow, i3, iO]) | (refine wk_intro (by kernel_rfl) ?_))
  refine vi_of hf rfl ?_
  repeat (first | (simp only [go_sem, Nat.reduceEqDiff, Nat.reduceAdd, Nat.reduceSub, Nat.reduceMul, Nat.reduceLeDiff, Nat.reduceLT, reduceIte, reduceCtorEq, Nat.succ_ne_zero, elemsC, Int.reduceToNat, Nat.reducePow, i3, iO, htk, hby, hcl, mk_bs, u_bytes, u_str, u_byte]) | (simp (disch := (first | omega | (simp only [AL, List.length_map]; omega))) only [AR, AL, ifT, ifF, take_all, List.length_cons, List.length_nil, Int.reduceToNat, Int.reducePow, Nat.reducePow, i3, iO, htk, hby, hcl, mk_bs, u_bytes, u_str, u_byte]) | (refine wk_intro (by kernel_rfl) ?_))
end Go.Proofs.YtkkmnjhecjkhgaaGreatDoor
namespace Go.Proofs.YtkkmnjhecjkhgaaGreatDoor
open Go.Ev
def sgT (s : Bool) : List UInt8 := if s then [45] else []
theorem sgT_len (s : Bool) : (sgT s).length ≤ 1 := by cases s <;> decide
theorem ratT_eq (q : Rat) : ratT q = sgT (decide (q.num < 0)) ++ dec q.num.natAbs ++ (if q.den = 1 then [] else 47 :: dec q.den) := by
  unfold ratT sgT
  by_cases h : q.num < 0 <;> simp [h]
theorem lim20 {n : Nat} (h : (lim n).length ≤ 20) : n < 10 ^ 200 := by
  have h1 := wth_lt (okL_lim n)
  rw [wth_lim] at h1
  have h2 : 4294967296 ^ (lim n).length ≤ 4294967296 ^ 20 := Nat.pow_le_pow_right (by omega) h
  exact Nat.lt_of_lt_of_le h1 (Nat.le_trans h2 (Nat.le_of_ble_eq_true (by kernel_rfl)))
theorem dec_sign (s : Bool) (n d : List Nat) : Go.Ev.Fn CX 78 [ratV s n d] (.str (bs (sgT s))) := by
  have z0 : sgT false = [] := rfl
  have z1 : sgT true = [45] := rfl
  cases s
  · rw [z0]
    refine Go.Ev.Fn.intro (fn := Tryz.f78) (body := (Tryz.f78).body.get!) (by kernel_rfl) (by kernel_rfl) (by kernel_rfl) (fun _ => rfl) (Nat.le_of_ble_eq_true (by kernel_rfl)) ?_; unfold Tryz.f78; simp only [Option.get!_some]
    repeat (first | (simp only [go_sem, Nat.reduceEqDiff, Nat.reduceAdd, Nat.reduceSub, Nat.reduceMul, Nat.reduceLeDiff, Nat.reduceLT, reduceIte, reduceCtorEq, Nat.succ_ne_zero, elemsC, Int.reduceToNat, Nat.reducePow, mk_bs]) | (simp (disch := (first | omega | (simp only [AL, List.length_map]; omega))) only [AR, AL, ifT, ifF, take_all, List.length_cons, List.length_nil, Int.reduceToNat, Int.reducePow, Nat.reducePow, mk_bs]) | (refine wk_intro (by kernel_rfl) ?_))
  · rw [z1]
    refine Go.Ev.Fn.intro (fn := Tryz.f78) (body := (Tryz.f78).body.get!) (by kernel_rfl) (by kernel_rfl) (by kernel_rfl) (fun _ => rfl) (Nat.le_of_ble_eq_true (by kernel_rfl)) ?_; unfold Tryz.f78; simp only [Option.get!_some]
    repeat (first | (simp only [go_sem, Nat.reduceEqDiff, Nat.reduceAdd, Nat.reduceSub, Nat.reduceMul, Nat.reduceLeDiff, Nat.reduceLT, reduceIte, reduceCtorEq, Nat.succ_ne_zero, elemsC, Int.reduceToNat, Nat.reducePow, mk_bs]) | (simp (disch := (first | omega | (simp only [AL, List.length_map]; omega))) only [AR, AL, ifT, ifF, take_all, List.length_cons, List.length_nil, Int.reduceToNat, Int.reducePow, Nat.reducePow, mk_bs]) | (refine wk_intro (by kernel_rfl) ?_))
theorem cmpN_one {d : Nat} : (cmpN d 1 != 0) = !(decide (d = 1)) := by
  unfold cmpN
  by_cases h : d = 1
  · subst h; rfl
  · rw [decide_eq_false h]
    by_cases h0 : d < 1
    · rw [if_pos h0]; rfl
    · rw [if_neg h0, if_neg h]; rfl
theorem dec_Print {v : SV} {q : Rat} {L : Nat} (h : RatA v q L) (hL : 1 ≤ L) (hL2 : L ≤ 20) : Go.Ev.Fn CX 50 [v] (.str (bs (ratT q))) := by
  have hn : Go.Ev.Fn CX 77 [v] (ratV (decide (q.num < 0)) (lim q.num.natAbs) (lim q.den)) := rat_Norm h (by omega)
  obtain ⟨z1, z2⟩ := szR_of h hL
  have p1 := nat_Print q.num.natAbs 200 (lim20 (by omega)) (by omega)
  have p2 := nat_Print q.den 200 (lim20 (by omega)) (by omega)
  have l1 := dec_len_le (lim20 (n := q.num.natAbs) (by omega)) (by omega)
  have l2 := dec_len_le (lim20 (n := q.den) (by omega)) (by omega)
  have o1 := nat_Of 1 (by omega)
  have c := nat_CmpL (N := q.den) (D := 1) (by omega) (by decide)
  have sg := dec_sign (decide (q.num < 0)) (lim q.num.natAbs) (lim q.den)
  have l0 := sgT_len (decide (q.num < 0))
  have cn := cmpN_one (d := q.den)
  rw [ratT_eq]
  obtain ⟨s, n, d, rfl, -⟩ := h
  generalize decide (q.num < 0) = S at *
  generalize q.num.natAbs = N at *
  generalize q.den = D at *
  generalize sgT S = T at *
  by_cases hD : D = 1
  · rw [if_pos hD, List.append_nil]
    rw [decide_eq_true hD] at cn
    refine Go.Ev.Fn.intro (fn := Tryz.f50) (body := (Tryz.f50).body.get!) (by kernel_rfl) (by kernel_rfl) (by kernel_rfl) (fun _ => rfl) (Nat.le_of_ble_eq_true (by kernel_rfl)) ?_; unfold Tryz.f50; simp only [Option.get!_some]
    repeat (first | (simp only [go_sem, Nat.reduceEqDiff, Nat.reduceAdd, Nat.reduceSub, Nat.reduceMul, Nat.reduceLeDiff, Nat.reduceLT, reduceIte, reduceCtorEq, Nat.succ_ne_zero, elemsC, Int.reduceToNat, Nat.reducePow, mk_bs, bs_size, bs_append, cn, Bool.not_true]) | (simp (disch := (first | omega | (simp only [AL, List.length_map]; omega))) only [AR, AL, ifT, ifF, take_all, List.length_cons, List.length_nil, Int.reduceToNat, Int.reducePow, Nat.reducePow, mk_bs, bs_size, bs_append, cn, Bool.not_true]) | (refine wk_intro (by kernel_rfl) ?_) | (refine vp_draw (id := 2) (l := [9]) (by kernel_rfl) ?_) | (refine vp_draw (id := 3) (l := [13, 14]) (by kernel_rfl) ?_) | (refine vf_of (by first | exact hn | exact sg | exact p1 | exact o1 | exact c) ?_))
  · rw [if_neg hD]
    rw [decide_eq_false hD] at cn
    refine Go.Ev.Fn.intro (fn := Tryz.f50) (body := (Tryz.f50).body.get!) (by kernel_rfl) (by kernel_rfl) (by kernel_rfl) (fun _ => rfl) (Nat.le_of_ble_eq_true (by kernel_rfl)) ?_; unfold Tryz.f50; simp only [Option.get!_some]
    repeat (first | (simp only [go_sem, Nat.reduceEqDiff, Nat.reduceAdd, Nat.reduceSub, Nat.reduceMul, Nat.reduceLeDiff, Nat.reduceLT, reduceIte, reduceCtorEq, Nat.succ_ne_zero, elemsC, Int.reduceToNat, Nat.reducePow, mk_bs, bs_size, bs_append, cn, Bool.not_false, List.length_append]) | (simp (disch := (first | omega | (simp only [AL, List.length_map]; omega))) only [AR, AL, ifT, ifF, take_all, List.length_cons, List.length_nil, Int.reduceToNat, Int.reducePow, Nat.reducePow, mk_bs, bs_size, bs_append, cn, Bool.not_false, List.length_append]) | (refine wk_intro (by kernel_rfl) ?_) | (refine vp_draw (id := 2) (l := [9]) (by kernel_rfl) ?_) | (refine vp_draw (id := 3) (l := [13, 14]) (by kernel_rfl) ?_) | (refine vf_of (by first | exact hn | exact sg | exact p1 | exact o1 | exact c | exact p2) ?_))
theorem ref3_sign (s : Bool) : Go.Ev.Fn CX 46 [.bool s] (.str (bs (sgT s))) := by
  have z0 : sgT false = [] := rfl
  have z1 : sgT true = [45] := rfl
  cases s
  · rw [z0]
    refine Go.Ev.Fn.intro (fn := Tryz.f46) (body := (Tryz.f46).body.get!) (by kernel_rfl) (by kernel_rfl) (by kernel_rfl) (fun _ => rfl) (Nat.le_of_ble_eq_true (by kernel_rfl)) ?_; unfold Tryz.f46; simp only [Option.get!_some]
    repeat (first | (simp only [go_sem, Nat.reduceEqDiff, Nat.reduceAdd, Nat.reduceSub, Nat.reduceMul, Nat.reduceLeDiff, Nat.reduceLT, reduceIte, reduceCtorEq, Nat.succ_ne_zero, elemsC, Int.reduceToNat, Nat.reducePow, mk_bs]) | (simp (disch := (first | omega | (simp only [AL, List.length_map]; omega))) only [AR, AL, ifT, ifF, take_all, List.length_cons, List.length_nil, Int.reduceToNat, Int.reducePow, Nat.reducePow, mk_bs]) | (refine wk_intro (by kernel_rfl) ?_))
  · rw [z1]
    refine Go.Ev.Fn.intro (fn := Tryz.f46) (body := (Tryz.f46).body.get!) (by kernel_rfl) (by kernel_rfl) (by kernel_rfl) (fun _ => rfl) (Nat.le_of_ble_eq_true (by kernel_rfl)) ?_; unfold Tryz.f46; simp only [Option.get!_some]
    repeat (first | (simp only [go_sem, Nat.reduceEqDiff, Nat.reduceAdd, Nat.reduceSub, Nat.reduceMul, Nat.reduceLeDiff, Nat.reduceLT, reduceIte, reduceCtorEq, Nat.succ_ne_zero, elemsC, Int.reduceToNat, Nat.reducePow, mk_bs]) | (simp (disch := (first | omega | (simp only [AL, List.length_map]; omega))) only [AR, AL, ifT, ifF, take_all, List.length_cons, List.length_nil, Int.reduceToNat, Int.reducePow, Nat.reducePow, mk_bs]) | (refine wk_intro (by kernel_rfl) ?_))
theorem byte_bs (r : Nat) (h : r < 10) : bytesOf [SV.int .u8 (48 + (r : Int))] = some [UInt8.ofNat (48 + r)] := by
  show some [UInt8.ofNat (48 + (r : Int)).toNat] = _
  rw [show (48 + (r : Int)).toNat = 48 + r by omega]
theorem ref1_Print (n K : Nat) (hK : n < 10 ^ K) (hk : K ≤ 400) (hk1 : 1 ≤ K) : Go.Ev.Fn CX 47 [natV (lim n)] (.str (bs (dec n))) := by
  have hlim := lim_ten hK
  have hT := ref1_Trim (lim n) (okL_lim _) (by omega)
  rw [wth_lim] at hT
  by_cases hn : n = 0
  · subst hn
    rw [show dec 0 = [48] from rfl]
    rw [lim_zero] at hT ⊢
    refine Go.Ev.Fn.intro (fn := Tryz.f47) (body := (Tryz.f47).body.get!) (by kernel_rfl) (by kernel_rfl) (by kernel_rfl) (fun _ => rfl) (Nat.le_of_ble_eq_true (by kernel_rfl)) ?_; unfold Tryz.f47; simp only [Option.get!_some]
    repeat (first | (simp only [go_sem, Nat.reduceEqDiff, Nat.reduceAdd, Nat.reduceSub, Nat.reduceMul, Nat.reduceLeDiff, Nat.reduceLT, reduceIte, reduceCtorEq, Nat.succ_ne_zero, elemsC, Int.reduceToNat, Nat.reducePow, mk_bs]) | (simp (disch := (first | omega | (simp only [AL, List.length_map]; omega))) only [AR, AL, ifT, ifF, take_all, List.length_cons, List.length_nil, Int.reduceToNat, Int.reducePow, Nat.reducePow, mk_bs]) | (refine wk_intro (by kernel_rfl) ?_) | (refine vf_of (by first | exact hT) ?_))
  have hpos := lim_pos hn
  have hdl := dec_len_le hK (by omega)
  rw [dec_pos hn] at hdl ⊢
  refine Go.Ev.Fn.intro (fn := Tryz.f47) (body := (Tryz.f47).body.get!) (by kernel_rfl) (by kernel_rfl) (by kernel_rfl) (fun _ => rfl) (Nat.le_of_ble_eq_true (by kernel_rfl)) ?_; unfold Tryz.f47; simp only [Option.get!_some]
  repeat (first | (simp only [go_sem, Nat.reduceEqDiff, Nat.reduceAdd, Nat.reduceSub, Nat.reduceMul, Nat.reduceLeDiff, Nat.reduceLT, reduceIte, reduceCtorEq, Nat.succ_ne_zero, elemsC, Int.reduceToNat, Nat.reducePow]) | (simp (disch := (first | omega | (simp only [AL, List.length_map]; omega))) only [AR, AL, ifT, ifF, take_all, List.length_cons, List.length_nil, Int.reduceToNat, Int.reducePow, Nat.reducePow]) | (refine wk_intro (by kernel_rfl) ?_) | (refine vf_of (by first | exact hT) ?_))
  refine vp_loop_inv (fun s => ∃ (m : Nat) (cur : List UInt8), s.tmp 3 = .sv (natV (lim m)) ∧ s.tmp 4 = .sv (.str (bs cur)) ∧ m ≤ n ∧ (dgR m).reverse ++ cur = (dgR n).reverse)
    (fun s => match s.tmp 3 with | .sv (.sl _ cs) => (match decL cs with | some l => wth l | none => 0) | _ => 0) ?_ ?_
  · exact ⟨n, [], rfl, rfl, Nat.le_refl _, List.append_nil _⟩
  rintro s ⟨m, cur, i3, i4, hmn, hv⟩
  by_cases hm : m = 0
  · subst hm
    rw [dgR_zero, List.reverse_nil, List.nil_append] at hv
    rw [lim_zero] at i3
    rw [← hv]
    repeat (first | (simp only [go_sem, Nat.reduceEqDiff, Nat.reduceAdd, Nat.reduceSub, Nat.reduceMul, Nat.reduceLeDiff, Nat.reduceLT, reduceIte, reduceCtorEq, Nat.succ_ne_zero, elemsC, Int.reduceToNat, Nat.reducePow, i3, i4]) | (simp (disch := (first | omega | (simp only [AL, List.length_map]; omega))) only [AR, AL, ifT, ifF, take_all, List.length_cons, List.length_nil, Int.reduceToNat, Int.reducePow, Nat.reducePow, i3, i4]) | (refine wk_intro (by kernel_rfl) ?_))
  · have h1 := lim_pos hm
    have h2 := lim_ten (Nat.lt_of_le_of_lt hmn hK)
    have hs := ref1_small (lim m) 10 (okL_lim _) (by omega) (by omega) (by omega)
    rw [wth_lim] at hs
    have hr0 : m % 10 < 10 := Nat.mod_lt _ (by omega)
    have hlt : m / 10 < m := Nat.div_lt_self (by omega) (by omega)
    have hb := byte_bs (m % 10) hr0
    rw [dgR_pos hm, List.reverse_cons, List.append_assoc, List.singleton_append] at hv
    have hcl : cur.length ≤ 400 := by
      have := congrArg List.length hv
      rw [List.length_append, List.length_cons] at this
      omega
    generalize UInt8.ofNat (48 + m % 10) = b at *
    generalize hr : m % 10 = r0 at *
    generalize hq : m / 10 = q at *
    repeat (first | (simp only [go_sem, Nat.reduceEqDiff, Nat.reduceAdd, Nat.reduceSub, Nat.reduceMul, Nat.reduceLeDiff, Nat.reduceLT, reduceIte, reduceCtorEq, Nat.succ_ne_zero, elemsC, Int.reduceToNat, Nat.reducePow, i3, i4, mk_bs, bs_size, bs_append, u_bytes, u_str, u_byte, hb]) | (simp (disch := (first | omega | (simp only [AL, List.length_map]; omega))) only [AR, AL, ifT, ifF, take_all, List.length_cons, List.length_nil, Int.reduceToNat, Int.reducePow, Nat.reducePow, i3, i4, mk_bs, bs_size, bs_append, u_bytes, u_str, u_byte, hb]) | (refine wk_intro (by kernel_rfl) ?_) | (refine vf_of (by first | exact hs) ?_))
    refine ⟨⟨q, b :: cur, rfl, rfl, by omega, hv⟩, ?_⟩
    rw [decL_map (okL_lim _), decL_map (okL_lim _)]
    dsimp only
    rw [wth_lim, wth_lim]
    exact hlt
theorem ref3_Print {v : SV} {q : Rat} {L : Nat} (h : RatA v q L) (hL : 1 ≤ L) (hL2 : L ≤ 20) : Go.Ev.Fn CX 13 [v] (.str (bs (ratT q))) := by
  have hn : Go.Ev.Fn CX 45 [v] (ratV (decide (q.num < 0)) (lim q.num.natAbs) (lim q.den)) := ref2_Norm h (by omega)
  obtain ⟨z1, z2⟩ := szR_of h hL
  have p1 := ref1_Print q.num.natAbs 200 (lim20 (by omega)) (by omega) (by omega)
  have p2 := ref1_Print q.den 200 (lim20 (by omega)) (by omega) (by omega)
  have l1 := dec_len_le (lim20 (n := q.num.natAbs) (by omega)) (by omega)
  have l2 := dec_len_le (lim20 (n := q.den) (by omega)) (by omega)
  have sg := ref3_sign (decide (q.num < 0))
  have l0 := sgT_len (decide (q.num < 0))
  have hd0 := q.den_nz
  rw [ratT_eq]
  obtain ⟨s, n, d, rfl, -⟩ := h
  generalize decide (q.num < 0) = S at *
  generalize q.num.natAbs = N at *
  generalize q.den = D at *
  generalize sgT S = T at *
  by_cases hD : D = 1
  · rw [if_pos hD, List.append_nil]
    subst hD
    rw [lim_one] at hn
    refine Go.Ev.Fn.intro (fn := Tryz.f13) (body := (Tryz.f13).body.get!) (by kernel_rfl) (by kernel_rfl) (by kernel_rfl) (fun _ => rfl) (Nat.le_of_ble_eq_true (by kernel_rfl)) ?_; unfold Tryz.f13; simp only [Option.get!_some]
    repeat (first | (simp only [go_sem, Nat.reduceEqDiff, Nat.reduceAdd, Nat.reduceSub, Nat.reduceMul, Nat.reduceLeDiff, Nat.reduceLT, reduceIte, reduceCtorEq, Nat.succ_ne_zero, elemsC, Int.reduceToNat, Nat.reducePow, mk_bs, bs_size, bs_append, List.head?_cons]) | (simp (disch := (first | omega | (simp only [AL, List.length_map]; omega))) only [AR, AL, ifT, ifF, take_all, List.length_cons, List.length_nil, Int.reduceToNat, Int.reducePow, Nat.reducePow, mk_bs, bs_size, bs_append, List.head?_cons]) | (refine wk_intro (by kernel_rfl) ?_) | (refine vp_draw (id := 2) (l := [11]) (by kernel_rfl) ?_) | (refine vf_of (by first | exact hn | exact sg | exact p1) ?_))
  · rw [if_neg hD]
    by_cases h1 : (lim D).length = 1
    · obtain ⟨x, hx⟩ := List.length_eq_one_iff.1 h1
      have hw := wth_lim D
      rw [hx, wth_cons, wth_nil, Nat.mul_zero, Nat.add_zero] at hw
      have hx1 : ¬ x = 1 := fun e => hD (by rw [← hw, e])
      have hx2 : x ≠ 1 := hx1
      have hc : ¬ ((x : Int) = 1) := by omega
      rw [hx] at hn p2
      refine Go.Ev.Fn.intro (fn := Tryz.f13) (body := (Tryz.f13).body.get!) (by kernel_rfl) (by kernel_rfl) (by kernel_rfl) (fun _ => rfl) (Nat.le_of_ble_eq_true (by kernel_rfl)) ?_; unfold Tryz.f13; simp only [Option.get!_some]
      repeat (first | (simp only [go_sem, Nat.reduceEqDiff, Nat.reduceAdd, Nat.reduceSub, Nat.reduceMul, Nat.reduceLeDiff, Nat.reduceLT, reduceIte, reduceCtorEq, Nat.succ_ne_zero, elemsC, Int.reduceToNat, Nat.reducePow, mk_bs, bs_size, bs_append, List.head?_cons, hc, List.length_append]) | (simp (disch := (first | omega | (simp only [AL, List.length_map]; omega))) only [AR, AL, ifT, ifF, take_all, List.length_cons, List.length_nil, Int.reduceToNat, Int.reducePow, Nat.reducePow, mk_bs, bs_size, bs_append, List.head?_cons, hc, List.length_append]) | (refine wk_intro (by kernel_rfl) ?_) | (refine vp_draw (id := 2) (l := [11]) (by kernel_rfl) ?_) | (refine vf_of (by first | exact hn | exact sg | exact p1 | exact p2) ?_))
      exact congrArg (fun l => SV.str (bs l)) (by simp)
    · have hc : ¬ (((lim D).length : Int) = 1) := by omega
      refine Go.Ev.Fn.intro (fn := Tryz.f13) (body := (Tryz.f13).body.get!) (by kernel_rfl) (by kernel_rfl) (by kernel_rfl) (fun _ => rfl) (Nat.le_of_ble_eq_true (by kernel_rfl)) ?_; unfold Tryz.f13; simp only [Option.get!_some]
      repeat (first | (simp only [go_sem, Nat.reduceEqDiff, Nat.reduceAdd, Nat.reduceSub, Nat.reduceMul, Nat.reduceLeDiff, Nat.reduceLT, reduceIte, reduceCtorEq, Nat.succ_ne_zero, elemsC, Int.reduceToNat, Nat.reducePow, mk_bs, bs_size, bs_append, List.head?_cons, hc, List.length_append]) | (simp (disch := (first | omega | (simp only [AL, List.length_map]; omega))) only [AR, AL, ifT, ifF, take_all, List.length_cons, List.length_nil, Int.reduceToNat, Int.reducePow, Nat.reducePow, mk_bs, bs_size, bs_append, List.head?_cons, hc, List.length_append]) | (refine wk_intro (by kernel_rfl) ?_) | (refine vp_draw (id := 2) (l := [11]) (by kernel_rfl) ?_) | (refine vf_of (by first | exact hn | exact sg | exact p1 | exact p2) ?_))
      exact congrArg (fun l => SV.str (bs l)) (by simp)
end Go.Proofs.YtkkmnjhecjkhgaaGreatDoor
namespace Go.Proofs.YtkkmnjhecjkhgaaGreatDoor
open Go.Ev
def RowC : List SV → List Rat → Nat → Prop
  | cs, [], _ => cs = []
  | cs, q :: l, L => ∃ s n d rest, cs = .bool s :: natV n :: natV d :: rest ∧ RatA (ratV s n d) q L ∧ RowC rest l L
theorem row_len {L : Nat} : ∀ {l : List Rat} {cs : List SV}, RowC cs l L → cs.length = l.length * 3
  | [], _, h => by cases h; rfl
  | q :: l, cs, h => by
    obtain ⟨s, n, d, rest, rfl, -, h2⟩ := h
    have := row_len h2
    simp only [List.length_cons]
    omega
theorem row_one {L : Nat} : ∀ {l : List Rat} {cs : List SV}, RowC cs l L → cs.all SV.one = true
  | [], _, h => by cases h; rfl
  | q :: l, cs, h => by
    obtain ⟨s, n, d, rest, rfl, -, h2⟩ := h
    have := row_one h2
    simp only [List.all_cons, this]
    rfl
theorem row_at {L : Nat} : ∀ {l : List Rat} {cs : List SV} {i : Nat}, RowC cs l L → i < l.length → ∃ s n d rest, cs.drop (i * 3) = .bool s :: natV n :: natV d :: rest ∧ RatA (ratV s n d) (l.getD i 0) L
  | [], _, _, _, hi => by simp at hi
  | q :: l, cs, 0, h, _ => by
    obtain ⟨s, n, d, rest, rfl, h1, h2⟩ := h
    exact ⟨s, n, d, rest, rfl, h1⟩
  | q :: l, cs, i + 1, h, hi => by
    obtain ⟨s, n, d, rest, rfl, h1, h2⟩ := h
    obtain ⟨s', n', d', r', h3, h4⟩ := row_at (i := i) h2 (by simpa using hi)
    refine ⟨s', n', d', r', ?_, h4⟩
    have e : ∀ k, (SV.bool s :: natV n :: natV d :: rest).drop (k + 3) = rest.drop k := fun _ => rfl
    rw [show (i + 1) * 3 = i * 3 + 3 by omega, e, h3]
theorem row_append {L : Nat} : ∀ {l : List Rat} {m : List Rat} {cs ds : List SV}, RowC cs l L → RowC ds m L → RowC (cs ++ ds) (l ++ m) L
  | [], _, _, _, h, h2 => by cases h; exact h2
  | q :: l, _, cs, ds, h, h2 => by
    obtain ⟨s, n, d, rest, rfl, h1, h3⟩ := h
    exact ⟨s, n, d, rest ++ ds, rfl, h1, row_append h3 h2⟩
theorem row_snoc {L : Nat} {l : List Rat} {cs : List SV} {s : Bool} {n d : List Nat} {q : Rat} (h : RowC cs l L) (h1 : RatA (ratV s n d) q L) : RowC (cs ++ [.bool s, natV n, natV d]) (l ++ [q]) L :=
  row_append h ⟨s, n, d, [], rfl, h1, rfl⟩
theorem row_sz {L : Nat} (hL : 1 ≤ L) : ∀ {l : List Rat} {cs : List SV}, RowC cs l L → ∀ x ∈ l, szR x L
  | [], _, _, x, hx => by cases hx
  | q :: l, cs, h, x, hx => by
    obtain ⟨s, n, d, rest, rfl, h1, h2⟩ := h
    rcases List.mem_cons.1 hx with rfl | hx
    · exact szR_of h1 hL
    · exact row_sz hL h2 x hx
def rvC (q : Rat) : List SV := [.bool (decide (q.num < 0)), natV (lim q.num.natAbs), natV (lim q.den)]
theorem row_rv {L : Nat} {l : List Rat} {cs : List SV} {q : Rat} (h : RowC cs l L) (hq : szR q L) : RowC (cs ++ rvC q) (l ++ [q]) L := row_snoc h (RatA_rv hq)
def rvsC (l : List Rat) : List SV := l.flatMap rvC
theorem rvsC_len (l : List Rat) : (rvsC l).length = l.length * 3 := by
  induction l with
  | nil => rfl
  | cons x l ih => show (rvC x ++ rvsC l).length = _; rw [List.length_append, ih, List.length_cons]; show 3 + _ = _; omega
end Go.Proofs.YtkkmnjhecjkhgaaGreatDoor
namespace Go.Proofs.YtkkmnjhecjkhgaaGreatDoor
open Go.Ev
theorem pm_set (l : List UInt8) : Lib.trimLeftS l [43, 45] = l.dropWhile isPM := by
  unfold Lib.trimLeftS
  congr 1
  funext b
  unfold isPM
  simp only [List.contains_cons, List.contains_nil, Bool.or_false]
theorem dec_from : ∀ {l : List UInt8} (a : Nat), digs l = true → Lib.decFrom a l = some (l.foldl (fun a b => a * 10 + (b.toNat - 48)) a) := by
  intro l
  induction l with
  | nil => intro a _; rfl
  | cons b l ih =>
    intro a h
    unfold digs at h
    rw [List.all_cons, Bool.and_eq_true] at h
    have hb := h.1
    unfold dig at hb
    simp only [Bool.and_eq_true, decide_eq_true_eq] at hb
    have hd : Lib.digitVal b = some (b.toNat - 48) := by unfold Lib.digitVal; rw [if_pos hb]
    rw [Lib.decFrom, hd]
    exact ih _ h.2
theorem dec_nat {l : List UInt8} (h0 : l ≠ []) (h : digs l = true) : Lib.decNat l = some (natD l) := by
  unfold Lib.decNat
  rw [if_neg (by simpa using h0), dec_from 0 h]
  rfl
theorem atoi_is {l : List UInt8} (h1 : l.length - (l.dropWhile isPM).length ≤ 1) (h2 : 1 ≤ (l.dropWhile isPM).length) (h3 : digs (l.dropWhile isPM) = true) :
    Lib.atoi l = some (if l.head? = some 45 then - (natD (l.dropWhile isPM) : Int) else (natD (l.dropWhile isPM) : Int)) := by
  cases l with
  | nil => simp at h2
  | cons b r =>
    cases hb : isPM b with
    | false =>
      rw [List.dropWhile_cons, hb] at h2 h3 ⊢
      simp only [Bool.false_eq_true, if_false] at h2 h3 ⊢
      unfold isPM at hb
      rw [Bool.or_eq_false_iff] at hb
      have e45 : ¬ b = 45 := by simpa using hb.2
      rw [Lib.atoi, hb.1, hb.2, dec_nat (by simp) h3]
      simp [e45]
    | true =>
      rw [List.dropWhile_cons, hb] at h1 h2 h3 ⊢
      simp only [if_true] at h1 h2 h3 ⊢
      have hr : r.dropWhile isPM = r := by
        have hle := (List.dropWhile_sublist (l := r) isPM).length_le
        have : (r.dropWhile isPM).length = r.length := by simp at h1; omega
        exact (List.dropWhile_sublist isPM).eq_of_length this
      rw [hr] at h2 h3 ⊢
      have h0 : r ≠ [] := fun e => by subst e; simp at h2
      rw [Lib.atoi, dec_nat h0 h3]
      unfold isPM at hb
      rw [Bool.or_eq_true] at hb
      rcases hb with hb | hb
      · have e : b = 43 := by simpa using hb
        subst e
        rfl
      · have e : b = 45 := by simpa using hb
        subst e
        rfl
theorem x_atoi {l : List UInt8} {v : Int} (h : l.length ≤ 18) (hv : Lib.atoi l = some v) : Go.Ev.Fn CX 91 [.str (bs l)] (.tup [.int .i64 v, .con .nilIface]) := by
  refine ⟨1, List.replicate 1 none, ?_⟩
  have h3 : xAtoi [.sv (.str (bs l))] = some (.sv (.tup [.int .i64 v, .con .nilIface]), List.replicate 1 none) := by
    unfold xAtoi
    simp only [bs_toList, bs_size, hv]
    rw [if_pos h]
  have h4 : CX.X 91 ([SV.str (bs l)].map Arg.sv) = some (.sv (.tup [.int .i64 v, .con .nilIface]), List.replicate 1 none) := h3
  unfold callN
  rw [h4]
theorem data_exponent (l : List UInt8) (hl : l.length ≤ 1048576) : ∃ k : Int, Go.Ev.Fn CX 56 [.str (bs l)] (.tup [.int .i64 k, .bool (expP l).isSome]) ∧ ∀ v, expP l = some v → v = k ∧ -30 ≤ k ∧ k ≤ 30 := by
  have htl := x_trimLeft l [43, 45] (by decide) (by decide)
  rw [pm_set] at htl
  have hle := (List.dropWhile_sublist (l := l) isPM).length_le
  have ht := x_trim (l.dropWhile isPM) D10 (by omega) (by decide) (by decide)
  have htd := trim_digs (l.dropWhile isPM)
  unfold D10 at ht htd
  by_cases hc : l.length - (l.dropWhile isPM).length > 1 ∨ (l.dropWhile isPM).length < 1 ∨ (l.dropWhile isPM).length > 2 ∨ digs (l.dropWhile isPM) = false
  · have e : expP l = none := by unfold expP; rw [if_pos hc]
    rw [e]
    refine ⟨0, ?_, fun v h => by cases h⟩
    rw [Option.isSome_none]
    clear e
    generalize hd : l.dropWhile isPM = d at *
    by_cases h1 : l.length - d.length > 1
    · refine Go.Ev.Fn.intro (fn := Tryz.f56) (body := (Tryz.f56).body.get!) (by kernel_rfl) (by kernel_rfl) (by kernel_rfl) (fun _ => rfl) (Nat.le_of_ble_eq_true (by kernel_rfl)) ?_; unfold Tryz.f56; simp only [Option.get!_some]
      repeat (first | (simp only [go_sem, Nat.reduceEqDiff, Nat.reduceAdd, Nat.reduceSub, Nat.reduceMul, Nat.reduceLeDiff, Nat.reduceLT, reduceIte, reduceCtorEq, Nat.succ_ne_zero, elemsC, Int.reduceToNat, Nat.reducePow, mk_bs, bs_size]) | (simp (disch := (first | omega | (simp only [AL, List.length_map]; omega))) only [AR, AL, ifT, ifF, take_all, List.length_cons, List.length_nil, Int.reduceToNat, Int.reducePow, Nat.reducePow, mk_bs, bs_size]) | (refine wk_intro (by kernel_rfl) ?_) | (refine vf_of (by first | exact htl) ?_))
    by_cases h2 : d.length < 1
    · refine Go.Ev.Fn.intro (fn := Tryz.f56) (body := (Tryz.f56).body.get!) (by kernel_rfl) (by kernel_rfl) (by kernel_rfl) (fun _ => rfl) (Nat.le_of_ble_eq_true (by kernel_rfl)) ?_; unfold Tryz.f56; simp only [Option.get!_some]
      repeat (first | (simp only [go_sem, Nat.reduceEqDiff, Nat.reduceAdd, Nat.reduceSub, Nat.reduceMul, Nat.reduceLeDiff, Nat.reduceLT, reduceIte, reduceCtorEq, Nat.succ_ne_zero, elemsC, Int.reduceToNat, Nat.reducePow, mk_bs, bs_size]) | (simp (disch := (first | omega | (simp only [AL, List.length_map]; omega))) only [AR, AL, ifT, ifF, take_all, List.length_cons, List.length_nil, Int.reduceToNat, Int.reducePow, Nat.reducePow, mk_bs, bs_size]) | (refine wk_intro (by kernel_rfl) ?_) | (refine vf_of (by first | exact htl) ?_))
    by_cases h3 : d.length > 2
    · refine Go.Ev.Fn.intro (fn := Tryz.f56) (body := (Tryz.f56).body.get!) (by kernel_rfl) (by kernel_rfl) (by kernel_rfl) (fun _ => rfl) (Nat.le_of_ble_eq_true (by kernel_rfl)) ?_; unfold Tryz.f56; simp only [Option.get!_some]
      repeat (first | (simp only [go_sem, Nat.reduceEqDiff, Nat.reduceAdd, Nat.reduceSub, Nat.reduceMul, Nat.reduceLeDiff, Nat.reduceLT, reduceIte, reduceCtorEq, Nat.succ_ne_zero, elemsC, Int.reduceToNat, Nat.reducePow, mk_bs, bs_size]) | (simp (disch := (first | omega | (simp only [AL, List.length_map]; omega))) only [AR, AL, ifT, ifF, take_all, List.length_cons, List.length_nil, Int.reduceToNat, Int.reducePow, Nat.reducePow, mk_bs, bs_size]) | (refine wk_intro (by kernel_rfl) ?_) | (refine vf_of (by first | exact htl) ?_))
    · have h4 : digs d = false := by
        rcases hc with h | h | h | h
        · exact absurd h h1
        · exact absurd h h2
        · exact absurd h h3
        · exact h
      rw [h4] at htd
      refine Go.Ev.Fn.intro (fn := Tryz.f56) (body := (Tryz.f56).body.get!) (by kernel_rfl) (by kernel_rfl) (by kernel_rfl) (fun _ => rfl) (Nat.le_of_ble_eq_true (by kernel_rfl)) ?_; unfold Tryz.f56; simp only [Option.get!_some]
      repeat (first | (simp only [go_sem, Nat.reduceEqDiff, Nat.reduceAdd, Nat.reduceSub, Nat.reduceMul, Nat.reduceLeDiff, Nat.reduceLT, reduceIte, reduceCtorEq, Nat.succ_ne_zero, elemsC, Int.reduceToNat, Nat.reducePow, mk_bs, bs_size, bs_list, htd, Bool.not_false]) | (simp (disch := (first | omega | (simp only [AL, List.length_map]; omega))) only [AR, AL, ifT, ifF, take_all, List.length_cons, List.length_nil, Int.reduceToNat, Int.reducePow, Nat.reducePow, mk_bs, bs_size, bs_list, htd, Bool.not_false]) | (refine wk_intro (by kernel_rfl) ?_) | (refine vf_of (by first | exact htl | exact ht) ?_))
  · have e : expP l = if natD (l.dropWhile isPM) ≤ 30 then some (if l.head? = some 45 then - (natD (l.dropWhile isPM) : Int) else (natD (l.dropWhile isPM) : Int)) else none := by unfold expP; rw [if_neg hc]
    rw [e]
    clear e
    simp only [not_or, Nat.not_lt] at hc
    obtain ⟨h1, h2, h3, h4⟩ := hc
    have h4 : digs (l.dropWhile isPM) = true := by simpa using h4
    have ha := x_atoi (l := l) (by omega) (atoi_is (by omega) (by omega) h4)
    rw [h4] at htd
    have hn : natD (l.dropWhile isPM) < 100 := by
      have := natD_lt h4
      have h5 : 10 ^ (l.dropWhile isPM).length ≤ 10 ^ 2 := Nat.pow_le_pow_right (by omega) (by omega)
      omega
    generalize natD (l.dropWhile isPM) = n at *
    generalize hd : l.dropWhile isPM = d at *
    have hv : (if l.head? = some 45 then - (n : Int) else (n : Int)).natAbs = n := by split <;> omega
    generalize (if l.head? = some 45 then - (n : Int) else (n : Int)) = v at *
    have e1 : IntKind.i64.wrap (0 - v) = -v := by rw [wI64 (by omega)]; omega
    have e2 : (if -v > v then -v else v) = (n : Int) := by split <;> omega
    refine ⟨v, ?_, fun u hu => by
      split at hu
      · cases hu; omega
      · cases hu⟩
    by_cases hn30 : n ≤ 30
    · rw [if_pos hn30, Option.isSome_some]
      have e3 : decide ((n : Int) ≤ 30) = true := decide_eq_true (by omega)
      refine Go.Ev.Fn.intro (fn := Tryz.f56) (body := (Tryz.f56).body.get!) (by kernel_rfl) (by kernel_rfl) (by kernel_rfl) (fun _ => rfl) (Nat.le_of_ble_eq_true (by kernel_rfl)) ?_; unfold Tryz.f56; simp only [Option.get!_some]
      repeat (first | (simp only [go_sem, Nat.reduceEqDiff, Nat.reduceAdd, Nat.reduceSub, Nat.reduceMul, Nat.reduceLeDiff, Nat.reduceLT, reduceIte, reduceCtorEq, Nat.succ_ne_zero, elemsC, Int.reduceToNat, Nat.reducePow, mk_bs, bs_size, bs_list, htd, Bool.not_true, isCst, e1, e2, e3]) | (simp (disch := (first | omega | (simp only [AL, List.length_map]; omega))) only [AR, AL, ifT, ifF, take_all, List.length_cons, List.length_nil, Int.reduceToNat, Int.reducePow, Nat.reducePow, mk_bs, bs_size, bs_list, htd, Bool.not_true, isCst, e1, e2, e3]) | (refine wk_intro (by kernel_rfl) ?_) | (refine vf_of (by first | exact htl | exact ht | exact ha) ?_))
    · rw [if_neg hn30, Option.isSome_none]
      have e3 : decide ((n : Int) ≤ 30) = false := decide_eq_false (by omega)
      refine Go.Ev.Fn.intro (fn := Tryz.f56) (body := (Tryz.f56).body.get!) (by kernel_rfl) (by kernel_rfl) (by kernel_rfl) (fun _ => rfl) (Nat.le_of_ble_eq_true (by kernel_rfl)) ?_; unfold Tryz.f56; simp only [Option.get!_some]
      repeat (first | (simp only [go_sem, Nat.reduceEqDiff, Nat.reduceAdd, Nat.reduceSub, Nat.reduceMul, Nat.reduceLeDiff, Nat.reduceLT, reduceIte, reduceCtorEq, Nat.succ_ne_zero, elemsC, Int.reduceToNat, Nat.reducePow, mk_bs, bs_size, bs_list, htd, Bool.not_true, isCst, e1, e2, e3]) | (simp (disch := (first | omega | (simp only [AL, List.length_map]; omega))) only [AR, AL, ifT, ifF, take_all, List.length_cons, List.length_nil, Int.reduceToNat, Int.reducePow, Nat.reducePow, mk_bs, bs_size, bs_list, htd, Bool.not_true, isCst, e1, e2, e3]) | (refine wk_intro (by kernel_rfl) ?_) | (refine vf_of (by first | exact htl | exact ht | exact ha) ?_))
theorem sz_ten (k : Nat) (h : k ≤ 60) : szR ((10 : Rat) ^ k) 61 := by
  have e : ((10 : Rat) ^ k) = ((10 ^ k : Nat) : Rat) := by simp
  rw [e]
  refine ⟨?_, ?_⟩
  · have := pow_lim (k := k)
    simpa using Nat.le_trans this (by omega)
  · simp
    decide
theorem data_ten (n : Nat) (hn : n ≤ 60) : Go.Ev.Fn CX 59 [.int .i64 (n : Int)] (rv ((10 : Rat) ^ n)) := by
  have o1 := rat_Int 1 (by omega)
  have o10 := rat_Int 10 (by omega)
  have z10 : szR ((10 : Int) : Rat) 1 := ⟨by decide, by decide⟩
  refine Go.Ev.Fn.intro (fn := Tryz.f59) (body := (Tryz.f59).body.get!) (by kernel_rfl) (by kernel_rfl) (by kernel_rfl) (fun _ => rfl) (Nat.le_of_ble_eq_true (by kernel_rfl)) ?_; unfold Tryz.f59; simp only [Option.get!_some]
  repeat (first | (simp only [go_sem, Nat.reduceEqDiff, Nat.reduceAdd, Nat.reduceSub, Nat.reduceMul, Nat.reduceLeDiff, Nat.reduceLT, reduceIte, reduceCtorEq, Nat.succ_ne_zero, elemsC, Int.reduceToNat, Nat.reducePow, rv, ratV]) | (simp (disch := (first | omega | (simp only [AL, List.length_map]; omega))) only [AR, AL, ifT, ifF, take_all, List.length_cons, List.length_nil, Int.reduceToNat, Int.reducePow, Nat.reducePow, rv, ratV]) | (refine wk_intro (by kernel_rfl) ?_) | (refine vp_draw (id := 4) (l := []) (by kernel_rfl) ?_) | (refine vf_of (by first | exact o1) ?_))
  refine vp_loop_inv (fun s => s.tmp 2 = .ptr 2 0 0 ∧ s.obj 2 0 = some [.bool false, .sl 0 [], .sl 0 []] ∧ s.tmp 3 = .ptr 3 0 0 ∧ s.tmp 5 = .sv (.int .i64 (n : Int)) ∧
      ∃ i : Nat, s.tmp 6 = .sv (.int .i64 (i : Int)) ∧ i ≤ n ∧ s.obj 3 0 = some (rvC ((10 : Rat) ^ i)))
    (fun s => match s.tmp 6 with | .sv (.int _ i) => n - i.toNat | _ => 0) ?_ ?_
  · have e0 : rvC ((10 : Rat) ^ 0) = [.bool false, natV (lim 1), natV (lim 1)] := by simp [rvC]
    exact ⟨rfl, rfl, rfl, rfl, 0, rfl, by omega, by rw [e0]; rfl⟩
  rintro s2 ⟨i2, o2, i3, i5, i, i6, hi, o3⟩
  by_cases hend : i = n
  · subst hend
    generalize (10 : Rat) ^ i = q at *
    repeat (first | (simp only [go_sem, Nat.reduceEqDiff, Nat.reduceAdd, Nat.reduceSub, Nat.reduceMul, Nat.reduceLeDiff, Nat.reduceLT, reduceIte, reduceCtorEq, Nat.succ_ne_zero, elemsC, Int.reduceToNat, Nat.reducePow, i2, o2, i3, i5, i6, o3, rvC]) | (simp (disch := (first | omega | (simp only [AL, List.length_map]; omega))) only [AR, AL, ifT, ifF, take_all, List.length_cons, List.length_nil, Int.reduceToNat, Int.reducePow, Nat.reducePow, i2, o2, i3, i5, i6, o3, rvC]) | (refine wk_intro (by kernel_rfl) ?_) | (refine vp_draw (id := 4) (l := []) (by kernel_rfl) ?_))
    first | rfl | skip
  · have z := sz_ten i (by omega)
    have m := rat_Mul (RatA_rv z) (RatA_rv z10) (by omega) (by omega) (by omega)
    rw [show (10 : Rat) ^ i * ((10 : Int) : Rat) = (10 : Rat) ^ (i + 1) by rw [Rat.pow_succ]; rfl] at m
    generalize hp : (10 : Rat) ^ i = q at *
    generalize hp2 : (10 : Rat) ^ (i + 1) = q2 at *
    unfold rvC at o3
    unfold rv ratV at m o10
    repeat (first | (simp only [go_sem, Nat.reduceEqDiff, Nat.reduceAdd, Nat.reduceSub, Nat.reduceMul, Nat.reduceLeDiff, Nat.reduceLT, reduceIte, reduceCtorEq, Nat.succ_ne_zero, elemsC, Int.reduceToNat, Nat.reducePow, i2, o2, i3, i5, i6, o3]) | (simp (disch := (first | omega | (simp only [AL, List.length_map]; omega))) only [AR, AL, ifT, ifF, take_all, List.length_cons, List.length_nil, Int.reduceToNat, Int.reducePow, Nat.reducePow, i2, o2, i3, i5, i6, o3]) | (refine wk_intro (by kernel_rfl) ?_) | (refine vp_draw (id := 4) (l := []) (by kernel_rfl) ?_) | (refine vf_of (by first | exact o10 | exact m) ?_))
    exact ⟨⟨i + 1, rfl, by omega, by rw [hp2]; rfl⟩, by omega⟩
def ratS (v : SV) : Prop := ∃ s n1 c1 n2 c2, v = .agg [.bool s, .sl n1 c1, .sl n2 c2]
theorem ratS_rv (q : Rat) : ratS (rv q) := ⟨_, _, _, _, _, rfl⟩
theorem szR_decP {l : List UInt8} {q : Rat} (h : decP l = some q) (hl : l.length ≤ 400) : szR q 401 := by
  have key : ∀ (s : Bool) (n d : Nat), (lim n).length ≤ 400 → (lim d).length ≤ 401 → szR (mkRat (sgn s n) d) 401 := fun s n d h1 h2 => szR_of (v := ratV s (lim n) (lim d)) ⟨s, lim n, lim d, rfl, okL_lim _, okL_lim _, by omega, h2, by rw [wth_lim, wth_lim]⟩ (by omega)
  have ha : (absP l).length ≤ 400 := by
    unfold absP
    split
    · rw [List.length_tail]; omega
    · exact hl
  unfold decP at h
  split at h
  · split at h
    · cases h
    · split at h
      · rename_i n m h1 h2
        cases h
        have := back_len (c := 46) (l := absP l)
        have h3 := pow_lim (k := (backL 46 (absP l)).length)
        exact key _ _ _ (parse_len h2) (by omega)
      · cases h
  · split at h
    · rename_i n d h1 h2
      split at h
      · cases h
      · cases h
        exact key _ _ _ (parse_len h1) (by have := parse_len h2; omega)
    · cases h
theorem str_Contains (l : List UInt8) (c : UInt8) : Go.Ev.Fn CX 57 [.str (bs l), .str (bs [c])] (.bool (l.contains c)) := by
  have hx := str_Index CX_str l c
  refine Go.Ev.Fn.intro (fn := Tryz.f57) (body := (Tryz.f57).body.get!) (by kernel_rfl) (by kernel_rfl) (by kernel_rfl) (fun _ => rfl) (Nat.le_of_ble_eq_true (by kernel_rfl)) ?_; unfold Tryz.f57; simp only [Option.get!_some]
  rcases index_cases c l with ⟨h1, h2, _⟩ | ⟨i, h1, h2, _⟩
  · rw [h2] at hx
    rw [h1]
    repeat (first | (simp only [go_sem, Nat.reduceEqDiff, Nat.reduceAdd, Nat.reduceSub, Nat.reduceMul, Nat.reduceLeDiff, Nat.reduceLT, reduceIte, reduceCtorEq, Nat.succ_ne_zero, elemsC, Int.reduceToNat, Nat.reducePow]) | (simp (disch := (first | omega | (simp only [AL, List.length_map]; omega))) only [AR, AL, ifT, ifF, take_all, List.length_cons, List.length_nil, Int.reduceToNat, Int.reducePow, Nat.reducePow]) | (refine wk_intro (by kernel_rfl) ?_) | (refine vf_of (by first | exact hx) ?_))
    first | rfl | skip
  · rw [h2] at hx
    rw [h1]
    repeat (first | (simp only [go_sem, Nat.reduceEqDiff, Nat.reduceAdd, Nat.reduceSub, Nat.reduceMul, Nat.reduceLeDiff, Nat.reduceLT, reduceIte, reduceCtorEq, Nat.succ_ne_zero, elemsC, Int.reduceToNat, Nat.reducePow]) | (simp (disch := (first | omega | (simp only [AL, List.length_map]; omega))) only [AR, AL, ifT, ifF, take_all, List.length_cons, List.length_nil, Int.reduceToNat, Int.reducePow, Nat.reducePow]) | (refine wk_intro (by kernel_rfl) ?_) | (refine vf_of (by first | exact hx) ?_))
    first | rfl | skip
set_option maxHeartbeats 2000000 in
theorem data_Number (l : List UInt8) (hl : l.length ≤ 1048576) : ∃ v, ratS v ∧ Go.Ev.Fn CX 21 [.str (bs l)] (.tup [v, .int .i64 ((numP l).1 : Int)]) ∧ ((numP l).1 = 0 → v = rv (numP l).2 ∧ szR (numP l).2 500) := by
  have o0 := rat_Int 0 (by omega)
  have s0 : ∀ e : Nat, e ≠ 0 → (e = 0 → rv ((0 : Int) : Rat) = rv (0 : Rat) ∧ szR 0 500) := fun e h1 h2 => absurd h2 h1
  by_cases h60 : 60 < l.length
  · have e : numP l = (3, 0) := by unfold numP; rw [if_pos h60]
    rw [e]
    refine ⟨_, ratS_rv ((0 : Int) : Rat), ?_, fun h => by cases h⟩
    unfold rv ratV at o0
    refine Go.Ev.Fn.intro (fn := Tryz.f21) (body := (Tryz.f21).body.get!) (by kernel_rfl) (by kernel_rfl) (by kernel_rfl) (fun _ => rfl) (Nat.le_of_ble_eq_true (by kernel_rfl)) ?_; unfold Tryz.f21; simp only [Option.get!_some]
    repeat (first | (simp only [go_sem, Nat.reduceEqDiff, Nat.reduceAdd, Nat.reduceSub, Nat.reduceMul, Nat.reduceLeDiff, Nat.reduceLT, reduceIte, reduceCtorEq, Nat.succ_ne_zero, elemsC, Int.reduceToNat, Nat.reducePow, bs_size, rv, ratV]) | (simp (disch := (first | omega | (simp only [AL, List.length_map]; omega))) only [AR, AL, ifT, ifF, take_all, List.length_cons, List.length_nil, Int.reduceToNat, Int.reducePow, Nat.reducePow, bs_size, rv, ratV]) | (refine wk_intro (by kernel_rfl) ?_) | (refine vp_draw (id := 11) (l := []) (by kernel_rfl) ?_) | (refine vp_draw (id := 13) (l := []) (by kernel_rfl) ?_) | (refine vf_of (by first | exact o0) ?_))
    first | rfl | skip
  have c101 := str_Cut CX_str l 101 (by omega)
  have c47 := str_Contains l 47
  have f1 := front_len (c := 101) (l := l)
  have b1 := back_len (c := 101) (l := l)
  have hp := dec_Parse (frontL 101 l) (by omega)
  cases h101 : l.contains 101 with
  | false =>
    have hfr : frontL 101 l = l := by
      rcases index_cases 101 l with ⟨_, _, h, _⟩ | ⟨_, h, _⟩
      · exact h
      · rw [h101] at h; cases h
    rw [h101] at c101
    rw [hfr] at c101 hp
    cases hd : decP l with
    | some q =>
      have e : numP l = (0, q) := by unfold numP; rw [if_neg h60, h101, hd]; rfl
      have e2 : decPV l = .tup [rv q, .int .i64 0] := by unfold decPV; rw [hd]
      rw [e]
      rw [e2] at hp
      refine ⟨_, ratS_rv q, ?_, fun _ => ⟨rfl, ?_⟩⟩
      · unfold rv ratV at hp ⊢
        refine Go.Ev.Fn.intro (fn := Tryz.f21) (body := (Tryz.f21).body.get!) (by kernel_rfl) (by kernel_rfl) (by kernel_rfl) (fun _ => rfl) (Nat.le_of_ble_eq_true (by kernel_rfl)) ?_; unfold Tryz.f21; simp only [Option.get!_some]
        repeat (first | (simp only [go_sem, Nat.reduceEqDiff, Nat.reduceAdd, Nat.reduceSub, Nat.reduceMul, Nat.reduceLeDiff, Nat.reduceLT, reduceIte, reduceCtorEq, Nat.succ_ne_zero, elemsC, Int.reduceToNat, Nat.reducePow, bs_size, mk_bs, Bool.not_false]) | (simp (disch := (first | omega | (simp only [AL, List.length_map]; omega))) only [AR, AL, ifT, ifF, take_all, List.length_cons, List.length_nil, Int.reduceToNat, Int.reducePow, Nat.reducePow, bs_size, mk_bs, Bool.not_false]) | (refine wk_intro (by kernel_rfl) ?_) | (refine vp_draw (id := 11) (l := []) (by kernel_rfl) ?_) | (refine vp_draw (id := 13) (l := []) (by kernel_rfl) ?_) | (refine vf_of (by first | exact c101 | exact hp) ?_))
        first | rfl | skip
      · have := szR_decP hd (by omega)
        exact ⟨by have := this.1; simp only; omega, by have := this.2; simp only; omega⟩
    | none =>
      have e : numP l = (2, 0) := by unfold numP; rw [if_neg h60, h101, hd]; rfl
      have e2 : decPV l = .tup [noR, .int .i64 2] := by unfold decPV; rw [hd]
      rw [e]
      rw [e2] at hp
      unfold noR at hp
      refine ⟨noR, ⟨_, _, _, _, _, rfl⟩, ?_, fun h => by cases h⟩
      unfold noR
      refine Go.Ev.Fn.intro (fn := Tryz.f21) (body := (Tryz.f21).body.get!) (by kernel_rfl) (by kernel_rfl) (by kernel_rfl) (fun _ => rfl) (Nat.le_of_ble_eq_true (by kernel_rfl)) ?_; unfold Tryz.f21; simp only [Option.get!_some]
      repeat (first | (simp only [go_sem, Nat.reduceEqDiff, Nat.reduceAdd, Nat.reduceSub, Nat.reduceMul, Nat.reduceLeDiff, Nat.reduceLT, reduceIte, reduceCtorEq, Nat.succ_ne_zero, elemsC, Int.reduceToNat, Nat.reducePow, bs_size, mk_bs, Bool.not_false]) | (simp (disch := (first | omega | (simp only [AL, List.length_map]; omega))) only [AR, AL, ifT, ifF, take_all, List.length_cons, List.length_nil, Int.reduceToNat, Int.reducePow, Nat.reducePow, bs_size, mk_bs, Bool.not_false]) | (refine wk_intro (by kernel_rfl) ?_) | (refine vp_draw (id := 11) (l := []) (by kernel_rfl) ?_) | (refine vp_draw (id := 13) (l := []) (by kernel_rfl) ?_) | (refine vf_of (by first | exact c101 | exact hp) ?_))
      first | rfl | skip
  | true =>
    rw [h101] at c101
    obtain ⟨k, hk, hkv⟩ := data_exponent (backL 101 l) (by omega)
    cases hd : decP (frontL 101 l) with
    | none =>
      have e : numP l = (2, 0) := by unfold numP; rw [if_neg h60, h101, hd]; rfl
      have e2 : decPV (frontL 101 l) = .tup [noR, .int .i64 2] := by unfold decPV; rw [hd]
      rw [e]
      rw [e2] at hp
      unfold noR at hp
      refine ⟨_, ratS_rv ((0 : Int) : Rat), ?_, fun h => by cases h⟩
      unfold rv ratV at o0
      generalize (expP (backL 101 l)).isSome = bb at *
      refine Go.Ev.Fn.intro (fn := Tryz.f21) (body := (Tryz.f21).body.get!) (by kernel_rfl) (by kernel_rfl) (by kernel_rfl) (fun _ => rfl) (Nat.le_of_ble_eq_true (by kernel_rfl)) ?_; unfold Tryz.f21; simp only [Option.get!_some]
      repeat (first | (simp only [go_sem, Nat.reduceEqDiff, Nat.reduceAdd, Nat.reduceSub, Nat.reduceMul, Nat.reduceLeDiff, Nat.reduceLT, reduceIte, reduceCtorEq, Nat.succ_ne_zero, elemsC, Int.reduceToNat, Nat.reducePow, bs_size, mk_bs, Bool.not_true, rv, ratV]) | (simp (disch := (first | omega | (simp only [AL, List.length_map]; omega))) only [AR, AL, ifT, ifF, take_all, List.length_cons, List.length_nil, Int.reduceToNat, Int.reducePow, Nat.reducePow, bs_size, mk_bs, Bool.not_true, rv, ratV]) | (refine wk_intro (by kernel_rfl) ?_) | (refine vp_draw (id := 11) (l := []) (by kernel_rfl) ?_) | (refine vp_draw (id := 13) (l := []) (by kernel_rfl) ?_) | (refine vf_of (by first | exact c101 | exact hp | exact hk | exact o0) ?_))
      first | rfl | skip
    | some q =>
      have e2 : decPV (frontL 101 l) = .tup [rv q, .int .i64 0] := by unfold decPV; rw [hd]
      rw [e2] at hp
      have zq := szR_decP hd (by omega)
      cases hx : expP (backL 101 l) with
      | none =>
        have e : numP l = (2, 0) := by unfold numP; rw [if_neg h60, h101, hd, hx]; rfl
        rw [e]
        rw [hx, Option.isSome_none] at hk
        refine ⟨_, ratS_rv ((0 : Int) : Rat), ?_, fun h => by cases h⟩
        unfold rv ratV at o0 hp
        refine Go.Ev.Fn.intro (fn := Tryz.f21) (body := (Tryz.f21).body.get!) (by kernel_rfl) (by kernel_rfl) (by kernel_rfl) (fun _ => rfl) (Nat.le_of_ble_eq_true (by kernel_rfl)) ?_; unfold Tryz.f21; simp only [Option.get!_some]
        repeat (first | (simp only [go_sem, Nat.reduceEqDiff, Nat.reduceAdd, Nat.reduceSub, Nat.reduceMul, Nat.reduceLeDiff, Nat.reduceLT, reduceIte, reduceCtorEq, Nat.succ_ne_zero, elemsC, Int.reduceToNat, Nat.reducePow, bs_size, mk_bs, Bool.not_true, Bool.not_false, rv, ratV]) | (simp (disch := (first | omega | (simp only [AL, List.length_map]; omega))) only [AR, AL, ifT, ifF, take_all, List.length_cons, List.length_nil, Int.reduceToNat, Int.reducePow, Nat.reducePow, bs_size, mk_bs, Bool.not_true, Bool.not_false, rv, ratV]) | (refine wk_intro (by kernel_rfl) ?_) | (refine vp_draw (id := 11) (l := []) (by kernel_rfl) ?_) | (refine vp_draw (id := 13) (l := []) (by kernel_rfl) ?_) | (refine vf_of (by first | exact c101 | exact hp | exact hk | exact o0) ?_))
        first | rfl | skip
      | some v =>
        obtain ⟨rfl, hk1, hk2⟩ := hkv v hx
        rw [hx, Option.isSome_some] at hk
        cases h47 : l.contains 47 with
        | true =>
          have e : numP l = (2, 0) := by unfold numP; rw [if_neg h60, h101, hd, hx, h47]; rfl
          rw [e]
          rw [h47] at c47
          refine ⟨_, ratS_rv ((0 : Int) : Rat), ?_, fun h => by cases h⟩
          unfold rv ratV at o0 hp
          refine Go.Ev.Fn.intro (fn := Tryz.f21) (body := (Tryz.f21).body.get!) (by kernel_rfl) (by kernel_rfl) (by kernel_rfl) (fun _ => rfl) (Nat.le_of_ble_eq_true (by kernel_rfl)) ?_; unfold Tryz.f21; simp only [Option.get!_some]
          repeat (first | (simp only [go_sem, Nat.reduceEqDiff, Nat.reduceAdd, Nat.reduceSub, Nat.reduceMul, Nat.reduceLeDiff, Nat.reduceLT, reduceIte, reduceCtorEq, Nat.succ_ne_zero, elemsC, Int.reduceToNat, Nat.reducePow, bs_size, mk_bs, Bool.not_true, rv, ratV]) | (simp (disch := (first | omega | (simp only [AL, List.length_map]; omega))) only [AR, AL, ifT, ifF, take_all, List.length_cons, List.length_nil, Int.reduceToNat, Int.reducePow, Nat.reducePow, bs_size, mk_bs, Bool.not_true, rv, ratV]) | (refine wk_intro (by kernel_rfl) ?_) | (refine vp_draw (id := 11) (l := []) (by kernel_rfl) ?_) | (refine vp_draw (id := 13) (l := []) (by kernel_rfl) ?_) | (refine vf_of (by first | exact c101 | exact hp | exact hk | exact c47 | exact o0) ?_))
          first | rfl | skip
        | false =>
          have e : numP l = (0, q * tenR v) := by unfold numP; rw [if_neg h60, h101, hd, hx, h47]; rfl
          rw [e]
          rw [h47] at c47
          have ht := data_ten v.natAbs (by omega)
          have zt := sz_ten v.natAbs (by omega)
          by_cases hneg : v < 0
          · have e5 : tenR v = 1 / (10 : Rat) ^ v.natAbs := by unfold tenR; rw [if_pos hneg]
            have hm := rat_Div (RatA_rv zq) (RatA_rv zt) (by omega) (by omega) (by omega)
            have e6 : q / (10 : Rat) ^ v.natAbs = q * tenR v := by rw [e5, Rat.div_def, Rat.div_def, Rat.one_mul]
            have zd := szR_div zq zt (by omega) (by omega)
            rw [e6] at hm zd
            refine ⟨_, ratS_rv (q * tenR v), ?_, fun _ => ⟨rfl, ⟨by have := zd.1; simp only; omega, by have := zd.2; simp only; omega⟩⟩⟩
            have e7 : (v.natAbs : Int) = 0 - v := by omega
            rw [e7] at ht
            generalize (10 : Rat) ^ v.natAbs = t at *
            generalize q * tenR v = r at *
            unfold rv ratV at o0 hp hm ⊢
            refine Go.Ev.Fn.intro (fn := Tryz.f21) (body := (Tryz.f21).body.get!) (by kernel_rfl) (by kernel_rfl) (by kernel_rfl) (fun _ => rfl) (Nat.le_of_ble_eq_true (by kernel_rfl)) ?_; unfold Tryz.f21; simp only [Option.get!_some]
            repeat (first | (simp only [go_sem, Nat.reduceEqDiff, Nat.reduceAdd, Nat.reduceSub, Nat.reduceMul, Nat.reduceLeDiff, Nat.reduceLT, reduceIte, reduceCtorEq, Nat.succ_ne_zero, elemsC, Int.reduceToNat, Nat.reducePow, bs_size, mk_bs, Bool.not_true]) | (simp (disch := (first | omega | (simp only [AL, List.length_map]; omega))) only [AR, AL, ifT, ifF, take_all, List.length_cons, List.length_nil, Int.reduceToNat, Int.reducePow, Nat.reducePow, bs_size, mk_bs, Bool.not_true]) | (refine wk_intro (by kernel_rfl) ?_) | (refine vp_draw (id := 11) (l := []) (by kernel_rfl) ?_) | (refine vp_draw (id := 13) (l := []) (by kernel_rfl) ?_) | (refine vf_of (by first | exact c101 | exact hp | exact hk | exact c47) ?_))
            repeat (first | (simp only [go_sem, Nat.reduceEqDiff, Nat.reduceAdd, Nat.reduceSub, Nat.reduceMul, Nat.reduceLeDiff, Nat.reduceLT, reduceIte, reduceCtorEq, Nat.succ_ne_zero, elemsC, Int.reduceToNat, Nat.reducePow, rv, ratV]) | (simp (disch := (first | omega | (simp only [AL, List.length_map]; omega))) only [AR, AL, ifT, ifF, take_all, List.length_cons, List.length_nil, Int.reduceToNat, Int.reducePow, Nat.reducePow, rv, ratV]) | (refine wk_intro (by kernel_rfl) ?_) | (refine vp_draw (id := 11) (l := []) (by kernel_rfl) ?_) | (refine vp_draw (id := 13) (l := []) (by kernel_rfl) ?_) | (refine vf_of (by first | exact ht | exact hm) ?_))
            first | rfl | skip
          · have e5 : tenR v = (10 : Rat) ^ v.natAbs := by unfold tenR; rw [if_neg hneg]
            have hm := rat_Mul (RatA_rv zq) (RatA_rv zt) (by omega) (by omega) (by omega)
            have zd := szR_mul zq zt (by omega)
            rw [e5]
            refine ⟨_, ratS_rv (q * (10 : Rat) ^ v.natAbs), ?_, fun _ => ⟨rfl, ⟨by have := zd.1; simp only; omega, by have := zd.2; simp only; omega⟩⟩⟩
            have e7 : v = (v.natAbs : Int) := by omega
            generalize (10 : Rat) ^ v.natAbs = t at *
            generalize q * t = r at *
            generalize hm' : v.natAbs = m at *
            subst e7
            unfold rv ratV at o0 hp hm ⊢
            refine Go.Ev.Fn.intro (fn := Tryz.f21) (body := (Tryz.f21).body.get!) (by kernel_rfl) (by kernel_rfl) (by kernel_rfl) (fun _ => rfl) (Nat.le_of_ble_eq_true (by kernel_rfl)) ?_; unfold Tryz.f21; simp only [Option.get!_some]
            repeat (first | (simp only [go_sem, Nat.reduceEqDiff, Nat.reduceAdd, Nat.reduceSub, Nat.reduceMul, Nat.reduceLeDiff, Nat.reduceLT, reduceIte, reduceCtorEq, Nat.succ_ne_zero, elemsC, Int.reduceToNat, Nat.reducePow, bs_size, mk_bs, Bool.not_true]) | (simp (disch := (first | omega | (simp only [AL, List.length_map]; omega))) only [AR, AL, ifT, ifF, take_all, List.length_cons, List.length_nil, Int.reduceToNat, Int.reducePow, Nat.reducePow, bs_size, mk_bs, Bool.not_true]) | (refine wk_intro (by kernel_rfl) ?_) | (refine vp_draw (id := 11) (l := []) (by kernel_rfl) ?_) | (refine vp_draw (id := 13) (l := []) (by kernel_rfl) ?_) | (refine vf_of (by first | exact c101 | exact hp | exact hk | exact c47) ?_))
            repeat (first | (simp only [go_sem, Nat.reduceEqDiff, Nat.reduceAdd, Nat.reduceSub, Nat.reduceMul, Nat.reduceLeDiff, Nat.reduceLT, reduceIte, reduceCtorEq, Nat.succ_ne_zero, elemsC, Int.reduceToNat, Nat.reducePow, rv, ratV]) | (simp (disch := (first | omega | (simp only [AL, List.length_map]; omega))) only [AR, AL, ifT, ifF, take_all, List.length_cons, List.length_nil, Int.reduceToNat, Int.reducePow, Nat.reducePow, rv, ratV]) | (refine wk_intro (by kernel_rfl) ?_) | (refine vp_draw (id := 11) (l := []) (by kernel_rfl) ?_) | (refine vp_draw (id := 13) (l := []) (by kernel_rfl) ?_) | (refine vf_of (by first | exact ht | exact hm) ?_))
            first | rfl | skip
end Go.Proofs.YtkkmnjhecjkhgaaGreatDoor
namespace Go.Proofs.YtkkmnjhecjkhgaaGreatDoor
open Go.Ev
def ngB (b : UInt8) : Bool := !gapB b
theorem toks_skip (r : List UInt8) : toks [] r = toks [] (r.dropWhile gapB) := by
  induction r with
  | nil => rfl
  | cons b r ih =>
    rw [List.dropWhile_cons]
    cases h : gapB b with
    | true =>
      rw [toks, h]
      simpa using ih
    | false => rfl
theorem toks_cut {b : UInt8} {r : List UInt8} (hb : gapB b = false) : toks [] (b :: r) = (b :: r).takeWhile ngB :: toks [] ((b :: r).dropWhile ngB) := by
  have key : ∀ (r cur : List UInt8), cur ≠ [] → toks cur r = (cur.reverse ++ r.takeWhile ngB) :: toks [] (r.dropWhile ngB) := by
    intro r
    induction r with
    | nil => intro cur hc; simp [toks, hc]
    | cons x r ih =>
      intro cur hc
      rw [toks, List.takeWhile_cons, List.dropWhile_cons]
      unfold ngB
      cases hx : gapB x with
      | true =>
        simp only [if_true, Bool.not_true, Bool.false_eq_true, if_false, List.append_nil]
        rw [if_neg hc, toks, hx]
        simp
      | false =>
        simp only [Bool.false_eq_true, if_false, Bool.not_false, if_true]
        rw [ih (x :: cur) (by simp)]
        unfold ngB
        simp
  rw [toks, hb]
  simp only [Bool.false_eq_true, if_false]
  rw [key r [b] (by simp), List.takeWhile_cons, List.dropWhile_cons]
  unfold ngB
  simp [hb]
def runA (qs : List Rat) (ts : List (List UInt8)) : Nat × List Rat := match runP ts with
  | (0, l) => (0, qs ++ l)
  | (e, _) => (e, [])
theorem runA_nil (qs : List Rat) : runA qs [] = (0, qs) := by simp [runA, runP]
theorem runA_cons_ok {qs : List Rat} {t : List UInt8} {r : List (List UInt8)} (h : (numP t).1 = 0) : runA qs (t :: r) = runA (qs ++ [(numP t).2]) r := by
  unfold runA
  rw [runP]
  cases hq : numP t with
  | mk e q =>
    rw [hq] at h
    cases h
    dsimp only
    cases runP r with
    | mk e2 l =>
      cases e2 with
      | zero => simp
      | succ n => rfl
theorem runA_cons_bad {qs : List Rat} {t : List UInt8} {r : List (List UInt8)} (h : (numP t).1 ≠ 0) : runA qs (t :: r) = ((numP t).1, []) := by
  unfold runA
  rw [runP]
  cases hq : numP t with
  | mk e q =>
    rw [hq] at h
    cases e with
    | zero => exact absurd rfl h
    | succ n => rfl
def finP (r : Nat × List Rat) : Nat × List Rat := match r with
  | (0, x) => if 256 < x.length then (3, []) else (0, x)
  | (e, _) => (e, [])
theorem parse_runA (l : List UInt8) : parseP l = finP (runA [] (toks [] (plainL false l))) := by
  unfold parseP runA finP
  cases runP (toks [] (plainL false l)) with
  | mk e x => cases e <;> rfl
theorem gap_index (b : UInt8) : ∃ z : Int, Lib.indexByte [32, 44, 10] b = z ∧ -1 ≤ z ∧ z < 3 ∧ (gapB b = true → 0 ≤ z) ∧ (gapB b = false → z < 0) := by
  refine ⟨_, rfl, ?_⟩
  have key : ∀ n : Nat, n < 256 → (-1 ≤ Lib.indexByte [32, 44, 10] (UInt8.ofNat n) ∧ Lib.indexByte [32, 44, 10] (UInt8.ofNat n) < 3 ∧ (gapB (UInt8.ofNat n) = true → 0 ≤ Lib.indexByte [32, 44, 10] (UInt8.ofNat n)) ∧ (gapB (UInt8.ofNat n) = false → Lib.indexByte [32, 44, 10] (UInt8.ofNat n) < 0)) := by decide
  have := key b.toNat b.toNat_lt
  rwa [UInt8.ofNat_toNat] at this
theorem str_IndexByte (s : List UInt8) (b : UInt8) : Go.Ev.Fn CX 49 [.str (bs s), .int .u8 (b.toNat : Int)] (.int .i64 (Lib.indexByte s b)) := by
  have h := lite_IndexByte CX_str (bs s) b
  rw [bs_toList] at h
  refine Go.Ev.Fn.intro (fn := Tryz.f49) (body := (Tryz.f49).body.get!) (by kernel_rfl) (by kernel_rfl) (by kernel_rfl) (fun _ => rfl) (Nat.le_of_ble_eq_true (by kernel_rfl)) ?_; unfold Tryz.f49; simp only [Option.get!_some]
  simp only [go_sem, Nat.reduceEqDiff, Nat.reduceAdd, Nat.reduceSub, Nat.reduceMul, Nat.reduceLeDiff, Nat.reduceLT, reduceIte, reduceCtorEq, Nat.succ_ne_zero, elemsC, Int.reduceToNat, Nat.reducePow]
  refine vf_of (h) ?_; simp only [go_sem, Nat.reduceEqDiff, Nat.reduceAdd, Nat.reduceSub, Nat.reduceMul, Nat.reduceLeDiff, Nat.reduceLT, reduceIte, reduceCtorEq, Nat.succ_ne_zero, elemsC, Int.reduceToNat, Nat.reducePow]
theorem rvsC_app (l : List Rat) (q : Rat) : rvsC (l ++ [q]) = rvsC l ++ rvC q := by unfold rvsC; simp
set_option maxHeartbeats 4000000 in
theorem data_Parse (l : List UInt8) (hl : l.length ≤ 100000) : Go.Ev.Fn CX 15 [.str (bs l)] (.tup [.sl (parseP l).2.length (rvsC (parseP l).2), .int .i64 ((parseP l).1 : Int)]) := by
  have hp := data_plain l (by omega)
  have hPl := plain_len l false
  rw [parse_runA]
  generalize plainL false l = P at *
  generalize hres : runA [] (toks [] P) = res at *
  refine Go.Ev.Fn.intro (fn := Tryz.f15) (body := (Tryz.f15).body.get!) (by kernel_rfl) (by kernel_rfl) (by kernel_rfl) (fun _ => rfl) (Nat.le_of_ble_eq_true (by kernel_rfl)) ?_; unfold Tryz.f15; simp only [Option.get!_some]
  repeat (first | (simp only [go_sem, Nat.reduceEqDiff, Nat.reduceAdd, Nat.reduceSub, Nat.reduceMul, Nat.reduceLeDiff, Nat.reduceLT, reduceIte, reduceCtorEq, Nat.succ_ne_zero, elemsC, Int.reduceToNat, Nat.reducePow, mk_bs]) | (simp (disch := (first | omega | (simp only [AL, List.length_map]; omega))) only [AR, AL, ifT, ifF, take_all, List.length_cons, List.length_nil, Int.reduceToNat, Int.reducePow, Nat.reducePow, mk_bs]) | (refine wk_intro (by kernel_rfl) ?_) | (refine vf_of (by first | exact hp) ?_))
  refine vp_ind (fun s => s.tmp 0 = .sv (.str (bs P)) ∧ ∃ (i : Nat) (qs : List Rat), s.tmp 5 = .sv (.int .i64 (i : Int)) ∧ i ≤ P.length ∧ qs.length ≤ i ∧ runA qs (toks [] (P.drop i)) = res ∧
      ((qs = [] ∧ s.tmp 4 = .nil ∧ s.gen 56 = 0) ∨ (qs ≠ [] ∧ s.tmp 4 = .ref 56 0 3 0 qs.length ∧ s.obj 56 0 = some (rvsC qs))))
    (fun s => match s.tmp 5 with | .sv (.int _ i) => P.length - i.toNat | _ => 0) ?_ ?_
  · exact ⟨rfl, 0, [], rfl, by omega, by simp, hres, .inl ⟨rfl, rfl, rfl⟩⟩
  rintro s2 ⟨i0, i, qs, i5, hi, hq, hr, hc⟩ ih
  have hμ : (match s2.tmp 5 with | .sv (.int _ i) => P.length - i.toNat | _ => 0) = P.length - i := by rw [i5]; simp
  rw [hμ] at ih
  refine vp_loop_inv (fun s => s.tmp 0 = .sv (.str (bs P)) ∧ s.tmp 4 = s2.tmp 4 ∧ s.gen 56 = s2.gen 56 ∧ s.obj 56 0 = s2.obj 56 0 ∧
      ∃ j : Nat, s.tmp 5 = .sv (.int .i64 (j : Int)) ∧ i ≤ j ∧ j ≤ P.length ∧ (P.drop j).dropWhile gapB = (P.drop i).dropWhile gapB)
    (fun s => match s.tmp 5 with | .sv (.int _ j) => P.length - j.toNat | _ => 0) ?_ ?_
  · exact ⟨i0, rfl, rfl, rfl, i, i5, by omega, hi, rfl⟩
  rintro s3 ⟨j0, j4, jg, jo, j, j5, hij, hj, hdw⟩
  by_cases hend : j = P.length
  · have hnil : (P.drop i).dropWhile gapB = [] := by rw [← hdw, hend, List.drop_length]; rfl
    rw [toks_skip, hnil, show toks [] ([] : List UInt8) = [] from rfl, runA_nil] at hr
    subst hend
    by_cases hbig : 256 < qs.length
    · have e : finP res = (3, []) := by rw [← hr]; unfold finP; simp only; rw [if_pos hbig]
      rw [e]
      rcases hc with ⟨rfl, _⟩ | ⟨_, i4, iO⟩
      · simp at hbig
      · rw [i4] at j4
        repeat (first | (simp only [go_sem, Nat.reduceEqDiff, Nat.reduceAdd, Nat.reduceSub, Nat.reduceMul, Nat.reduceLeDiff, Nat.reduceLT, reduceIte, reduceCtorEq, Nat.succ_ne_zero, elemsC, Int.reduceToNat, Nat.reducePow, j0, j4, j5, bs_size]) | (simp (disch := (first | omega | (simp only [AL, List.length_map]; omega))) only [AR, AL, ifT, ifF, take_all, List.length_cons, List.length_nil, Int.reduceToNat, Int.reducePow, Nat.reducePow, j0, j4, j5, bs_size]) | (refine wk_intro (by kernel_rfl) ?_))
        exact ⟨rfl, rfl⟩
    · have e : finP res = (0, qs) := by rw [← hr]; unfold finP; simp only; rw [if_neg hbig]
      rw [e]
      rcases hc with ⟨rfl, i4, _⟩ | ⟨_, i4, iO⟩
      · rw [i4] at j4
        repeat (first | (simp only [go_sem, Nat.reduceEqDiff, Nat.reduceAdd, Nat.reduceSub, Nat.reduceMul, Nat.reduceLeDiff, Nat.reduceLT, reduceIte, reduceCtorEq, Nat.succ_ne_zero, elemsC, Int.reduceToNat, Nat.reducePow, j0, j4, j5, bs_size]) | (simp (disch := (first | omega | (simp only [AL, List.length_map]; omega))) only [AR, AL, ifT, ifF, take_all, List.length_cons, List.length_nil, Int.reduceToNat, Int.reducePow, Nat.reducePow, j0, j4, j5, bs_size]) | (refine wk_intro (by kernel_rfl) ?_))
        exact ⟨rfl, rfl⟩
      · rw [i4] at j4
        rw [iO] at jo
        have hrl := rvsC_len qs
        have ht : (rvsC qs).take (qs.length * 3) = rvsC qs := List.take_of_length_le (by omega)
        repeat (first | (simp only [go_sem, Nat.reduceEqDiff, Nat.reduceAdd, Nat.reduceSub, Nat.reduceMul, Nat.reduceLeDiff, Nat.reduceLT, reduceIte, reduceCtorEq, Nat.succ_ne_zero, elemsC, Int.reduceToNat, Nat.reducePow, j0, j4, j5, bs_size]) | (simp (disch := (first | omega | (simp only [AL, List.length_map]; omega))) only [AR, AL, ifT, ifF, take_all, List.length_cons, List.length_nil, Int.reduceToNat, Int.reducePow, Nat.reducePow, j0, j4, j5, bs_size]) | (refine wk_intro (by kernel_rfl) ?_))
        refine ⟨ro_ref (cs := rvsC qs) (by decide) ?_ ?_, rfl⟩
        · simp only [go_sem, Nat.reduceEqDiff, Nat.reduceAdd, Nat.reduceSub, Nat.reduceMul, Nat.reduceLeDiff, Nat.reduceLT, reduceIte, reduceCtorEq, Nat.succ_ne_zero, elemsC, Int.reduceToNat, Nat.reducePow, jo]
        · rw [List.drop_zero, ht]
  · have hlt : j < P.length := by omega
    have hg : P[j]? = some P[j] := List.getElem?_eq_getElem hlt
    have hdr : P.drop j = P[j] :: P.drop (j + 1) := List.drop_eq_getElem_cons hlt
    obtain ⟨z, hz0, hz1, hz2, hz3, hz4⟩ := gap_index P[j]
    have hx := str_IndexByte [32, 44, 10] P[j]
    rw [hz0] at hx
    cases hgap : gapB P[j] with
    | true =>
      have hz5 := hz3 hgap
      have hdw2 : (P.drop (j + 1)).dropWhile gapB = (P.drop i).dropWhile gapB := by
        rw [← hdw, hdr, List.dropWhile_cons, hgap]
        rfl
      clear hdr
      generalize P[j] = b at *
      repeat (first | (simp only [go_sem, Nat.reduceEqDiff, Nat.reduceAdd, Nat.reduceSub, Nat.reduceMul, Nat.reduceLeDiff, Nat.reduceLT, reduceIte, reduceCtorEq, Nat.succ_ne_zero, elemsC, Int.reduceToNat, Nat.reducePow, j0, j4, j5, bs_size, vo_ix, idxB_bs, hg, mk_bs, jg, jo]) | (simp (disch := (first | omega | (simp only [AL, List.length_map]; omega))) only [AR, AL, ifT, ifF, take_all, List.length_cons, List.length_nil, Int.reduceToNat, Int.reducePow, Nat.reducePow, j0, j4, j5, bs_size, vo_ix, idxB_bs, hg, mk_bs, jg, jo]) | (refine wk_intro (by kernel_rfl) ?_) | (refine vf_of (by first | exact hx) ?_))
      exact ⟨⟨j + 1, rfl, by omega, by omega, hdw2⟩, by omega⟩
    | false =>
      have hz5 := hz4 hgap
      have hself : (P.drop j).dropWhile gapB = P.drop j := by rw [hdr, List.dropWhile_cons, hgap]; rfl
      rw [hself] at hdw
      rw [toks_skip, ← hdw] at hr
      have hcut := toks_cut (r := P.drop (j + 1)) hgap
      rw [← hdr] at hcut
      rw [hcut] at hr
      clear hdr hcut hself hdw
      have hng : ngB P[j] = true := by unfold ngB; rw [hgap]; rfl
      repeat (first | (simp only [go_sem, Nat.reduceEqDiff, Nat.reduceAdd, Nat.reduceSub, Nat.reduceMul, Nat.reduceLeDiff, Nat.reduceLT, reduceIte, reduceCtorEq, Nat.succ_ne_zero, elemsC, Int.reduceToNat, Nat.reducePow, j0, j4, j5, bs_size, vo_ix, idxB_bs, hg, mk_bs, jg, jo]) | (simp (disch := (first | omega | (simp only [AL, List.length_map]; omega))) only [AR, AL, ifT, ifF, take_all, List.length_cons, List.length_nil, Int.reduceToNat, Int.reducePow, Nat.reducePow, j0, j4, j5, bs_size, vo_ix, idxB_bs, hg, mk_bs, jg, jo]) | (refine wk_intro (by kernel_rfl) ?_) | (refine vf_of (by first | exact hx) ?_))
      refine vp_loop_inv (fun s => s.tmp 0 = .sv (.str (bs P)) ∧ s.tmp 4 = s3.tmp 4 ∧ s.gen 56 = s3.gen 56 ∧ s.obj 56 0 = s3.obj 56 0 ∧ s.tmp 5 = .sv (.int .i64 (j : Int)) ∧
          ∃ k : Nat, s.tmp 6 = .sv (.int .i64 (k : Int)) ∧ j ≤ k ∧ k ≤ P.length ∧ (P.drop j).takeWhile ngB = (P.drop j).take (k - j) ++ (P.drop k).takeWhile ngB ∧ (P.drop j).dropWhile ngB = (P.drop k).dropWhile ngB)
        (fun s => match s.tmp 6 with | .sv (.int _ k) => P.length - k.toNat | _ => 0) ?_ ?_
      · exact ⟨j0, rfl, rfl, rfl, j5, j, rfl, by omega, hj, by simp, rfl⟩
      rintro s4 ⟨k0, k4, kg, ko, k5, k, k6, hjk, hk, htw, hdw⟩
      have kk : s4.tmp 4 = s2.tmp 4 := k4.trans j4
      have kkg : s4.gen 56 = s2.gen 56 := kg.trans jg
      have kko : s4.obj 56 0 = s2.obj 56 0 := ko.trans jo
      have stop : (k = P.length ∨ ∃ hkl : k < P.length, gapB P[k] = true) → (P.drop k).takeWhile ngB = [] ∧ (P.drop k).dropWhile ngB = P.drop k ∧ j < k := by
        rintro (h | ⟨hkl, h⟩)
        · rw [h, List.drop_length]
          exact ⟨rfl, rfl, by omega⟩
        · rw [List.drop_eq_getElem_cons hkl, List.takeWhile_cons, List.dropWhile_cons]
          have e : ngB P[k] = false := by unfold ngB; rw [h]; rfl
          rw [e]
          refine ⟨rfl, rfl, ?_⟩
          rcases Nat.lt_or_ge j k with h1 | h1
          · exact h1
          · have : k = j := by omega
            subst this
            rw [hgap] at h
            cases h
      have done : (k = P.length ∨ ∃ hkl : k < P.length, gapB P[k] = true) → j < k ∧ ∃ w, w = (P.drop j).take (k - j) ∧ w.length ≤ 100000 ∧ runA qs (w :: toks [] (P.drop k)) = res := by
        intro h
        obtain ⟨h1, h2, h3⟩ := stop h
        refine ⟨h3, _, rfl, by rw [List.length_take]; omega, ?_⟩
        rw [h1, List.append_nil] at htw
        rw [htw, hdw, h2] at hr
        exact hr
      have fin : ∀ w : List UInt8, runA qs (w :: toks [] (P.drop k)) = res → ((numP w).1 ≠ 0 → finP res = ((numP w).1, [])) ∧ ((numP w).1 = 0 → runA (qs ++ [(numP w).2]) (toks [] (P.drop k)) = res) := by
        intro w hw
        refine ⟨fun h => ?_, fun h => ?_⟩
        · rw [runA_cons_bad h] at hw
          rw [← hw]
          cases hn : (numP w).1 with
          | zero => exact absurd hn h
          | succ n => rfl
        · rw [runA_cons_ok h] at hw
          exact hw
      have go : ∀ (w : List UInt8), j < k → w = (P.drop j).take (k - j) → w.length ≤ 100000 → runA qs (w :: toks [] (P.drop k)) = res →
          (∃ v, ratS v ∧ Go.Ev.Fn CX 21 [.str (bs w)] (.tup [v, .int .i64 ((numP w).1 : Int)]) ∧ ((numP w).1 = 0 → v = rv (numP w).2)) := by
        intro w _ _ hw _
        obtain ⟨v, h1, h2, h3⟩ := data_Number w (by omega)
        exact ⟨v, h1, h2, fun h => (h3 h).1⟩
      by_cases hke : k = P.length
      · obtain ⟨hjk', w, hw, hwl, hrw⟩ := done (.inl hke)
        have hw' : (P.drop j).take (k - j) = w := hw.symm
        obtain ⟨v, ⟨sg, n1, c1, n2, c2, rfl⟩, hN, hv⟩ := go w hjk' hw hwl hrw
        obtain ⟨f1, f2⟩ := fin w hrw
        by_cases hm : (numP w).1 = 0
        · have f3 := f2 hm
          rw [hv hm, hm] at hN
          generalize (numP w).2 = q at *
          have hap := rvsC_app qs q
          have hrl := rvsC_len qs
          clear go fin done stop hx hv f1 f2
          unfold rv ratV at hN
          rcases hc with ⟨rfl, i4, ig⟩ | ⟨hq0, i4, iO⟩
          · rw [i4] at kk
            rw [ig] at kkg
            repeat (first | (simp only [go_sem, Nat.reduceEqDiff, Nat.reduceAdd, Nat.reduceSub, Nat.reduceMul, Nat.reduceLeDiff, Nat.reduceLT, reduceIte, reduceCtorEq, Nat.succ_ne_zero, elemsC, Int.reduceToNat, Nat.reducePow, k0, k5, k6, bs_size, mk_bs, bs_extract, hw', kk, kkg]) | (simp (disch := (first | omega | (simp only [AL, List.length_map]; omega))) only [AR, AL, ifT, ifF, take_all, List.length_cons, List.length_nil, Int.reduceToNat, Int.reducePow, Nat.reducePow, k0, k5, k6, bs_size, mk_bs, bs_extract, hw', kk, kkg]) | (refine wk_intro (by kernel_rfl) ?_) | (refine vf_of (by first | exact hN) ?_))
            refine sc_goto (by exact rfl) ?_
            simp only [go_sem, Nat.reduceEqDiff, Nat.reduceAdd, Nat.reduceSub, Nat.reduceMul, Nat.reduceLeDiff, Nat.reduceLT, reduceIte, reduceCtorEq, Nat.succ_ne_zero, elemsC, Int.reduceToNat, Nat.reducePow]
            refine ih _ ⟨?_, k, [q], ?_, by omega, by simp; omega, f3, .inr ⟨by simp, ?_, ?_⟩⟩ ?_
            · simp only [go_sem, Nat.reduceEqDiff, Nat.reduceAdd, Nat.reduceSub, Nat.reduceMul, Nat.reduceLeDiff, Nat.reduceLT, reduceIte, reduceCtorEq, Nat.succ_ne_zero, elemsC, Int.reduceToNat, Nat.reducePow, k0, kk, kkg]
            · simp only [go_sem, Nat.reduceEqDiff, Nat.reduceAdd, Nat.reduceSub, Nat.reduceMul, Nat.reduceLeDiff, Nat.reduceLT, reduceIte, reduceCtorEq, Nat.succ_ne_zero, elemsC, Int.reduceToNat, Nat.reducePow, k6]
            · simp only [go_sem, Nat.reduceEqDiff, Nat.reduceAdd, Nat.reduceSub, Nat.reduceMul, Nat.reduceLeDiff, Nat.reduceLT, reduceIte, reduceCtorEq, Nat.succ_ne_zero, elemsC, Int.reduceToNat, Nat.reducePow, kk, kkg]
              first | rfl | skip
            · simp only [go_sem, Nat.reduceEqDiff, Nat.reduceAdd, Nat.reduceSub, Nat.reduceMul, Nat.reduceLeDiff, Nat.reduceLT, reduceIte, reduceCtorEq, Nat.succ_ne_zero, elemsC, Int.reduceToNat, Nat.reducePow, kk, kkg]
              first | rfl | skip
            · simp only [go_sem, Nat.reduceEqDiff, Nat.reduceAdd, Nat.reduceSub, Nat.reduceMul, Nat.reduceLeDiff, Nat.reduceLT, reduceIte, reduceCtorEq, Nat.succ_ne_zero, elemsC, Int.reduceToNat, Nat.reducePow, k6]
              simp
              omega
          · rw [i4] at kk
            rw [iO] at kko
            unfold rvC at hap
            repeat (first | (simp only [go_sem, Nat.reduceEqDiff, Nat.reduceAdd, Nat.reduceSub, Nat.reduceMul, Nat.reduceLeDiff, Nat.reduceLT, reduceIte, reduceCtorEq, Nat.succ_ne_zero, elemsC, Int.reduceToNat, Nat.reducePow, k0, k5, k6, bs_size, mk_bs, bs_extract, hw', kk, kko, N0, hrl]) | (simp (disch := (first | omega | (simp only [AL, List.length_map]; omega))) only [AR, AL, ifT, ifF, take_all, List.length_cons, List.length_nil, Int.reduceToNat, Int.reducePow, Nat.reducePow, k0, k5, k6, bs_size, mk_bs, bs_extract, hw', kk, kko, N0, hrl]) | (refine wk_intro (by kernel_rfl) ?_) | (refine vf_of (by first | exact hN) ?_))
            refine sc_goto (by exact rfl) ?_
            simp only [go_sem, Nat.reduceEqDiff, Nat.reduceAdd, Nat.reduceSub, Nat.reduceMul, Nat.reduceLeDiff, Nat.reduceLT, reduceIte, reduceCtorEq, Nat.succ_ne_zero, elemsC, Int.reduceToNat, Nat.reducePow]
            refine ih _ ⟨?_, k, qs ++ [q], ?_, by omega, by simp; omega, f3, .inr ⟨by simp, ?_, ?_⟩⟩ ?_
            · simp only [go_sem, Nat.reduceEqDiff, Nat.reduceAdd, Nat.reduceSub, Nat.reduceMul, Nat.reduceLeDiff, Nat.reduceLT, reduceIte, reduceCtorEq, Nat.succ_ne_zero, elemsC, Int.reduceToNat, Nat.reducePow, k0, kk, kko, hrl]
            · simp only [go_sem, Nat.reduceEqDiff, Nat.reduceAdd, Nat.reduceSub, Nat.reduceMul, Nat.reduceLeDiff, Nat.reduceLT, reduceIte, reduceCtorEq, Nat.succ_ne_zero, elemsC, Int.reduceToNat, Nat.reducePow, k6]
            · simp only [go_sem, Nat.reduceEqDiff, Nat.reduceAdd, Nat.reduceSub, Nat.reduceMul, Nat.reduceLeDiff, Nat.reduceLT, reduceIte, reduceCtorEq, Nat.succ_ne_zero, elemsC, Int.reduceToNat, Nat.reducePow, kk, kko, List.length_append]
              first | rfl | skip
            · simp only [go_sem, Nat.reduceEqDiff, Nat.reduceAdd, Nat.reduceSub, Nat.reduceMul, Nat.reduceLeDiff, Nat.reduceLT, reduceIte, reduceCtorEq, Nat.succ_ne_zero, elemsC, Int.reduceToNat, Nat.reducePow, kk, kko, hap]
              first | rfl | skip
            · simp only [go_sem, Nat.reduceEqDiff, Nat.reduceAdd, Nat.reduceSub, Nat.reduceMul, Nat.reduceLeDiff, Nat.reduceLT, reduceIte, reduceCtorEq, Nat.succ_ne_zero, elemsC, Int.reduceToNat, Nat.reducePow, k6]
              simp
              omega
        · rw [f1 hm]
          generalize (numP w).1 = m at *
          clear go fin done stop hx hv f1 f2
          repeat (first | (simp only [go_sem, Nat.reduceEqDiff, Nat.reduceAdd, Nat.reduceSub, Nat.reduceMul, Nat.reduceLeDiff, Nat.reduceLT, reduceIte, reduceCtorEq, Nat.succ_ne_zero, elemsC, Int.reduceToNat, Nat.reducePow, k0, k5, k6, bs_size, mk_bs, bs_extract, hw']) | (simp (disch := (first | omega | (simp only [AL, List.length_map]; omega))) only [AR, AL, ifT, ifF, take_all, List.length_cons, List.length_nil, Int.reduceToNat, Int.reducePow, Nat.reducePow, k0, k5, k6, bs_size, mk_bs, bs_extract, hw']) | (refine wk_intro (by kernel_rfl) ?_) | (refine vf_of (by first | exact hN) ?_))
          first | exact ⟨rfl, rfl⟩ | rfl | skip
      · have hkl : k < P.length := by omega
        have hgk : P[k]? = some P[k] := List.getElem?_eq_getElem hkl
        obtain ⟨y, hy0, hy1, hy2, hy3, hy4⟩ := gap_index P[k]
        have hyx := str_IndexByte [32, 44, 10] P[k]
        rw [hy0] at hyx
        cases hgapk : gapB P[k] with
        | true =>
          have hy5 := hy3 hgapk
          obtain ⟨hjk', w, hw, hwl, hrw⟩ := done (.inr ⟨hkl, hgapk⟩)
          have hw' : (P.drop j).take (k - j) = w := hw.symm
          clear hy3 hy4
          generalize P[k] = b at *
          obtain ⟨v, ⟨sg, n1, c1, n2, c2, rfl⟩, hN, hv⟩ := go w hjk' hw hwl hrw
          obtain ⟨f1, f2⟩ := fin w hrw
          by_cases hm : (numP w).1 = 0
          · have f3 := f2 hm
            rw [hv hm, hm] at hN
            generalize (numP w).2 = q at *
            have hap := rvsC_app qs q
            have hrl := rvsC_len qs
            clear go fin done stop hx hv f1 f2
            unfold rv ratV at hN
            rcases hc with ⟨rfl, i4, ig⟩ | ⟨hq0, i4, iO⟩
            · rw [i4] at kk
              rw [ig] at kkg
              repeat (first | (simp only [go_sem, Nat.reduceEqDiff, Nat.reduceAdd, Nat.reduceSub, Nat.reduceMul, Nat.reduceLeDiff, Nat.reduceLT, reduceIte, reduceCtorEq, Nat.succ_ne_zero, elemsC, Int.reduceToNat, Nat.reducePow, k0, k5, k6, bs_size, mk_bs, bs_extract, vo_ix, idxB_bs, hgk, hw', kk, kkg]) | (simp (disch := (first | omega | (simp only [AL, List.length_map]; omega))) only [AR, AL, ifT, ifF, take_all, List.length_cons, List.length_nil, Int.reduceToNat, Int.reducePow, Nat.reducePow, k0, k5, k6, bs_size, mk_bs, bs_extract, vo_ix, idxB_bs, hgk, hw', kk, kkg]) | (refine wk_intro (by kernel_rfl) ?_) | (refine vf_of (by first | exact hyx | exact hN) ?_))
              refine sc_goto (by exact rfl) ?_
              simp only [go_sem, Nat.reduceEqDiff, Nat.reduceAdd, Nat.reduceSub, Nat.reduceMul, Nat.reduceLeDiff, Nat.reduceLT, reduceIte, reduceCtorEq, Nat.succ_ne_zero, elemsC, Int.reduceToNat, Nat.reducePow]
              refine ih _ ⟨?_, k, [q], ?_, by omega, by simp; omega, f3, .inr ⟨by simp, ?_, ?_⟩⟩ ?_
              · simp only [go_sem, Nat.reduceEqDiff, Nat.reduceAdd, Nat.reduceSub, Nat.reduceMul, Nat.reduceLeDiff, Nat.reduceLT, reduceIte, reduceCtorEq, Nat.succ_ne_zero, elemsC, Int.reduceToNat, Nat.reducePow, k0, kk, kkg]
              · simp only [go_sem, Nat.reduceEqDiff, Nat.reduceAdd, Nat.reduceSub, Nat.reduceMul, Nat.reduceLeDiff, Nat.reduceLT, reduceIte, reduceCtorEq, Nat.succ_ne_zero, elemsC, Int.reduceToNat, Nat.reducePow, k6]
              · simp only [go_sem, Nat.reduceEqDiff, Nat.reduceAdd, Nat.reduceSub, Nat.reduceMul, Nat.reduceLeDiff, Nat.reduceLT, reduceIte, reduceCtorEq, Nat.succ_ne_zero, elemsC, Int.reduceToNat, Nat.reducePow, kk, kkg]
                first | rfl | skip
              · simp only [go_sem, Nat.reduceEqDiff, Nat.reduceAdd, Nat.reduceSub, Nat.reduceMul, Nat.reduceLeDiff, Nat.reduceLT, reduceIte, reduceCtorEq, Nat.succ_ne_zero, elemsC, Int.reduceToNat, Nat.reducePow, kk, kkg]
                first | rfl | skip
              · simp only [go_sem, Nat.reduceEqDiff, Nat.reduceAdd, Nat.reduceSub, Nat.reduceMul, Nat.reduceLeDiff, Nat.reduceLT, reduceIte, reduceCtorEq, Nat.succ_ne_zero, elemsC, Int.reduceToNat, Nat.reducePow, k6]
                simp
                omega
            · rw [i4] at kk
              rw [iO] at kko
              unfold rvC at hap
              repeat (first | (simp only [go_sem, Nat.reduceEqDiff, Nat.reduceAdd, Nat.reduceSub, Nat.reduceMul, Nat.reduceLeDiff, Nat.reduceLT, reduceIte, reduceCtorEq, Nat.succ_ne_zero, elemsC, Int.reduceToNat, Nat.reducePow, k0, k5, k6, bs_size, mk_bs, bs_extract, vo_ix, idxB_bs, hgk, hw', kk, kko, N0, hrl]) | (simp (disch := (first | omega | (simp only [AL, List.length_map]; omega))) only [AR, AL, ifT, ifF, take_all, List.length_cons, List.length_nil, Int.reduceToNat, Int.reducePow, Nat.reducePow, k0, k5, k6, bs_size, mk_bs, bs_extract, vo_ix, idxB_bs, hgk, hw', kk, kko, N0, hrl]) | (refine wk_intro (by kernel_rfl) ?_) | (refine vf_of (by first | exact hyx | exact hN) ?_))
              refine sc_goto (by exact rfl) ?_
              simp only [go_sem, Nat.reduceEqDiff, Nat.reduceAdd, Nat.reduceSub, Nat.reduceMul, Nat.reduceLeDiff, Nat.reduceLT, reduceIte, reduceCtorEq, Nat.succ_ne_zero, elemsC, Int.reduceToNat, Nat.reducePow]
              refine ih _ ⟨?_, k, qs ++ [q], ?_, by omega, by simp; omega, f3, .inr ⟨by simp, ?_, ?_⟩⟩ ?_
              · simp only [go_sem, Nat.reduceEqDiff, Nat.reduceAdd, Nat.reduceSub, Nat.reduceMul, Nat.reduceLeDiff, Nat.reduceLT, reduceIte, reduceCtorEq, Nat.succ_ne_zero, elemsC, Int.reduceToNat, Nat.reducePow, k0, kk, kko, hrl]
              · simp only [go_sem, Nat.reduceEqDiff, Nat.reduceAdd, Nat.reduceSub, Nat.reduceMul, Nat.reduceLeDiff, Nat.reduceLT, reduceIte, reduceCtorEq, Nat.succ_ne_zero, elemsC, Int.reduceToNat, Nat.reducePow, k6]
              · simp only [go_sem, Nat.reduceEqDiff, Nat.reduceAdd, Nat.reduceSub, Nat.reduceMul, Nat.reduceLeDiff, Nat.reduceLT, reduceIte, reduceCtorEq, Nat.succ_ne_zero, elemsC, Int.reduceToNat, Nat.reducePow, kk, kko, List.length_append]
                first | rfl | skip
              · simp only [go_sem, Nat.reduceEqDiff, Nat.reduceAdd, Nat.reduceSub, Nat.reduceMul, Nat.reduceLeDiff, Nat.reduceLT, reduceIte, reduceCtorEq, Nat.succ_ne_zero, elemsC, Int.reduceToNat, Nat.reducePow, kk, kko, hap]
                first | rfl | skip
              · simp only [go_sem, Nat.reduceEqDiff, Nat.reduceAdd, Nat.reduceSub, Nat.reduceMul, Nat.reduceLeDiff, Nat.reduceLT, reduceIte, reduceCtorEq, Nat.succ_ne_zero, elemsC, Int.reduceToNat, Nat.reducePow, k6]
                simp
                omega
          · rw [f1 hm]
            generalize (numP w).1 = m at *
            clear go fin done stop hx hv f1 f2
            repeat (first | (simp only [go_sem, Nat.reduceEqDiff, Nat.reduceAdd, Nat.reduceSub, Nat.reduceMul, Nat.reduceLeDiff, Nat.reduceLT, reduceIte, reduceCtorEq, Nat.succ_ne_zero, elemsC, Int.reduceToNat, Nat.reducePow, k0, k5, k6, bs_size, mk_bs, bs_extract, vo_ix, idxB_bs, hgk, hw']) | (simp (disch := (first | omega | (simp only [AL, List.length_map]; omega))) only [AR, AL, ifT, ifF, take_all, List.length_cons, List.length_nil, Int.reduceToNat, Int.reducePow, Nat.reducePow, k0, k5, k6, bs_size, mk_bs, bs_extract, vo_ix, idxB_bs, hgk, hw']) | (refine wk_intro (by kernel_rfl) ?_) | (refine vf_of (by first | exact hyx | exact hN) ?_))
            first | exact ⟨rfl, rfl⟩ | rfl | skip
        | false =>
          have hy5 := hy4 hgapk
          have hngk : ngB P[k] = true := by unfold ngB; rw [hgapk]; rfl
          have h2 : (P.drop j).dropWhile ngB = (P.drop (k + 1)).dropWhile ngB := by
            rw [hdw, List.drop_eq_getElem_cons hkl, List.dropWhile_cons, hngk]
            rfl
          have h3 : (P.drop j).takeWhile ngB = (P.drop j).take (k + 1 - j) ++ (P.drop (k + 1)).takeWhile ngB := by
            rw [htw, List.drop_eq_getElem_cons hkl, List.takeWhile_cons, hngk, show k + 1 - j = (k - j) + 1 by omega, List.take_add_one, List.getElem?_drop, show j + (k - j) = k by omega, hgk]
            simp
          clear go fin done stop hx hy3 hy4
          generalize P[k] = b at *
          repeat (first | (simp only [go_sem, Nat.reduceEqDiff, Nat.reduceAdd, Nat.reduceSub, Nat.reduceMul, Nat.reduceLeDiff, Nat.reduceLT, reduceIte, reduceCtorEq, Nat.succ_ne_zero, elemsC, Int.reduceToNat, Nat.reducePow, k0, k4, k5, k6, bs_size, mk_bs, vo_ix, idxB_bs, hgk, kg, ko]) | (simp (disch := (first | omega | (simp only [AL, List.length_map]; omega))) only [AR, AL, ifT, ifF, take_all, List.length_cons, List.length_nil, Int.reduceToNat, Int.reducePow, Nat.reducePow, k0, k4, k5, k6, bs_size, mk_bs, vo_ix, idxB_bs, hgk, kg, ko]) | (refine wk_intro (by kernel_rfl) ?_) | (refine vf_of (by first | exact hyx) ?_))
          exact ⟨⟨k + 1, rfl, by omega, by omega, h3, h2⟩, by omega⟩
end Go.Proofs.YtkkmnjhecjkhgaaGreatDoor
namespace Go.Proofs.YtkkmnjhecjkhgaaGreatDoor
open Go.Ev Go.RowKit Go.WideShapes
abbrev InR := Bool × List Nat × List Nat
def InR.cells (p : InR) : List SV := [.bool p.1, natV p.2.1, natV p.2.2]
def InR.q (p : InR) : Rat := mkRat (sgn p.1 (wth p.2.1)) (wth p.2.2)
def InR.ok (p : InR) : Prop := okL p.2.1 ∧ okL p.2.2
end Go.Proofs.YtkkmnjhecjkhgaaGreatDoor
namespace Go.Proofs.YtkkmnjhecjkhgaaGreatDoor
open Go.Ev
theorem join_is (xs : List (List UInt8)) : Lib.join xs [32] = joinW xs := by
  cases xs with
  | nil => rfl
  | cons x r => rw [Lib.join_cons, join_cons]; rfl
theorem joinW_len {l : List (List UInt8)} {K : Nat} (h : ∀ x ∈ l, x.length ≤ K) : (joinW l).length ≤ l.length * (K + 1) := by
  induction l with
  | nil => simp [joinW]
  | cons x l ih =>
    cases l with
    | nil =>
      have := h x List.mem_cons_self
      simp [joinW]
      omega
    | cons y l =>
      have h1 := h x List.mem_cons_self
      have h2 := ih fun z hz => h z (List.mem_cons_of_mem _ hz)
      rw [joinW, List.length_append, List.length_cons, List.length_cons, Nat.add_mul]
      omega
theorem ratT_len {q : Rat} {L : Nat} (h : szR q L) (hL : L ≤ 20) : (ratT q).length ≤ 402 := by
  rw [ratT_eq, List.length_append, List.length_append]
  have l1 := dec_len_le (lim20 (n := q.num.natAbs) (Nat.le_trans h.1 hL)) (by omega)
  have l2 := dec_len_le (lim20 (n := q.den) (Nat.le_trans h.2 hL)) (by omega)
  have l0 := sgT_len (decide (q.num < 0))
  split
  · simp; omega
  · rw [List.length_cons]; omega
theorem data_Print {cs : List SV} {l : List Rat} {L : Nat} (h : RowC cs l L) (hL : 1 ≤ L) (hL2 : L ≤ 20) (hl : l.length ≤ 1000) : Go.Ev.Fn CX 17 [.sl l.length cs] (.str (bs (joinW (l.map ratT)))) := by
  have hlen := row_len h
  have hone := row_one h
  have hat := fun {i : Nat} (hi : i < l.length) => row_at (i := i) h hi
  have hsz := row_sz hL h
  have hjl := joinW_len (l := l.map ratT) (K := 402) (fun x hx => by
    obtain ⟨q, hq, rfl⟩ := List.mem_map.1 hx
    exact ratT_len (hsz q hq) hL2)
  rw [List.length_map] at hjl
  have hjn := x_join (xs := l.map ratT) (n := l.length) [32] (List.length_map _) (by omega) (by rw [join_is]; omega)
  rw [join_is] at hjn
  refine Go.Ev.Fn.intro (fn := Tryz.f17) (body := (Tryz.f17).body.get!) (by kernel_rfl) (by kernel_rfl) (by kernel_rfl) (fun _ => rfl) (Nat.le_of_ble_eq_true (by kernel_rfl)) ?_; unfold Tryz.f17; simp only [Option.get!_some]
  repeat (first | (simp only [go_sem, Nat.reduceEqDiff, Nat.reduceAdd, Nat.reduceSub, Nat.reduceMul, Nat.reduceLeDiff, Nat.reduceLT, reduceIte, reduceCtorEq, Nat.succ_ne_zero, elemsC, Int.reduceToNat, Nat.reducePow]) | (simp (disch := (first | omega | (simp only [AL, List.length_map]; omega))) only [AR, AL, ifT, ifF, take_all, List.length_cons, List.length_nil, Int.reduceToNat, Int.reducePow, Nat.reducePow]) | (refine wk_intro (by kernel_rfl) ?_))
  refine vp_loop_inv (fun s => s.tmp 6 = .sv (.sl l.length cs) ∧ s.tmp 7 = .sv (.int .i64 (l.length : Int)) ∧ ∃ i : Nat, s.tmp 8 = .sv (.int .i64 (i : Int)) ∧ i ≤ l.length ∧
      ((i = 0 ∧ s.tmp 3 = .nil ∧ s.gen 16 = 0) ∨ (0 < i ∧ s.tmp 3 = .ref 16 0 1 0 i ∧ s.obj 16 0 = some (((l.take i).map ratT).map strC))))
    (fun s => match s.tmp 8 with | .sv (.int _ i) => l.length - i.toNat | _ => 0) ?_ ?_
  · exact ⟨rfl, rfl, 0, rfl, by omega, .inl ⟨rfl, rfl, rfl⟩⟩
  rintro s ⟨i6, i7, i, i8, hi, hc⟩
  by_cases hend : i = l.length
  · subst hend
    rcases hc with ⟨h0, i3, -⟩ | ⟨h0, i3, iO⟩
    · have hnil : l = [] := List.eq_nil_of_length_eq_zero h0
      subst hnil
      repeat (first | (simp only [go_sem, Nat.reduceEqDiff, Nat.reduceAdd, Nat.reduceSub, Nat.reduceMul, Nat.reduceLeDiff, Nat.reduceLT, reduceIte, reduceCtorEq, Nat.succ_ne_zero, elemsC, Int.reduceToNat, Nat.reducePow, i6, i7, i8, i3, mk_bs, List.length_nil]) | (simp (disch := (first | omega | (simp only [AL, List.length_map]; omega))) only [AR, AL, ifT, ifF, take_all, List.length_cons, List.length_nil, Int.reduceToNat, Int.reducePow, Nat.reducePow, i6, i7, i8, i3, mk_bs, List.length_nil]) | (refine wk_intro (by kernel_rfl) ?_) | (refine vf_of (by first | exact hjn) ?_))
    · rw [List.take_length] at iO
      have ht : List.take l.length ((l.map ratT).map strC) = (l.map ratT).map strC := List.take_of_length_le (by simp)
      repeat (first | (simp only [go_sem, Nat.reduceEqDiff, Nat.reduceAdd, Nat.reduceSub, Nat.reduceMul, Nat.reduceLeDiff, Nat.reduceLT, reduceIte, reduceCtorEq, Nat.succ_ne_zero, elemsC, Int.reduceToNat, Nat.reducePow, i6, i7, i8, i3, iO, mk_bs, ht]) | (simp (disch := (first | omega | (simp only [AL, List.length_map]; omega))) only [AR, AL, ifT, ifF, take_all, List.length_cons, List.length_nil, Int.reduceToNat, Int.reducePow, Nat.reducePow, i6, i7, i8, i3, iO, mk_bs, ht]) | (refine wk_intro (by kernel_rfl) ?_) | (refine vf_of (by first | exact hjn) ?_))
  · have hlt : i < l.length := by omega
    obtain ⟨s', n', d', rest, g1, g2⟩ := hat hlt
    have hp := dec_Print g2 hL hL2
    have hsn : ((l.take (i + 1)).map ratT).map strC = ((l.take i).map ratT).map strC ++ [.str (bs (ratT (l.getD i 0)))] := by
      rw [List.take_add_one, List.getElem?_eq_getElem hlt, List.getD_eq_getElem?_getD, List.getElem?_eq_getElem hlt, List.map_append, List.map_append]
      rfl
    have hln : (((l.take i).map ratT).map strC).length = i := by simp; omega
    clear hat hjn hjl g2
    generalize hA : ((l.take (i + 1)).map ratT).map strC = A at *
    generalize hB : ((l.take i).map ratT).map strC = B at *
    generalize ratT (l.getD i 0) = T at *
    rcases hc with ⟨h0, i3, ig⟩ | ⟨h0, i3, iO⟩
    · subst h0
      have hBn : B = [] := List.eq_nil_of_length_eq_zero hln
      rw [hBn, List.nil_append] at hsn
      repeat (first | (simp only [go_sem, Nat.reduceEqDiff, Nat.reduceAdd, Nat.reduceSub, Nat.reduceMul, Nat.reduceLeDiff, Nat.reduceLT, reduceIte, reduceCtorEq, Nat.succ_ne_zero, elemsC, Int.reduceToNat, Nat.reducePow, i6, i7, i8, i3, ig, g1, hlen]) | (simp (disch := (first | omega | (simp only [AL, List.length_map]; omega))) only [AR, AL, ifT, ifF, take_all, List.length_cons, List.length_nil, Int.reduceToNat, Int.reducePow, Nat.reducePow, i6, i7, i8, i3, ig, g1, hlen]) | (refine wk_intro (by kernel_rfl) ?_) | (refine vf_of (by first | exact hp) ?_))
      exact ⟨⟨1, rfl, by omega, .inr ⟨by omega, rfl, by rw [hA, hsn]⟩⟩, by omega⟩
    · repeat (first | (simp only [go_sem, Nat.reduceEqDiff, Nat.reduceAdd, Nat.reduceSub, Nat.reduceMul, Nat.reduceLeDiff, Nat.reduceLT, reduceIte, reduceCtorEq, Nat.succ_ne_zero, elemsC, Int.reduceToNat, Nat.reducePow, i6, i7, i8, i3, iO, g1, hlen]) | (simp (disch := (first | omega | (simp only [AL, List.length_map]; omega))) only [AR, AL, ifT, ifF, take_all, List.length_cons, List.length_nil, Int.reduceToNat, Int.reducePow, Nat.reducePow, i6, i7, i8, i3, iO, g1, hlen]) | (refine wk_intro (by kernel_rfl) ?_))
      refine vf_of (hp) ?_; repeat (first | (simp only [go_sem, Nat.reduceEqDiff, Nat.reduceAdd, Nat.reduceSub, Nat.reduceMul, Nat.reduceLeDiff, Nat.reduceLT, reduceIte, reduceCtorEq, Nat.succ_ne_zero, elemsC, Int.reduceToNat, Nat.reducePow, i6, i7, i8, i3, iO, g1, hlen, hln, N0]) | (simp (disch := (first | omega | (simp only [AL, List.length_map]; omega))) only [AR, AL, ifT, ifF, take_all, List.length_cons, List.length_nil, Int.reduceToNat, Int.reducePow, Nat.reducePow, i6, i7, i8, i3, iO, g1, hlen, hln, N0]) | (refine wk_intro (by kernel_rfl) ?_))
      exact ⟨⟨i + 1, rfl, by omega, .inr ⟨by omega, rfl, by rw [hA, hsn]⟩⟩, by omega⟩
end Go.Proofs.YtkkmnjhecjkhgaaGreatDoor
namespace Go.Proofs.YtkkmnjhecjkhgaaGreatDoor
open Go.Ev
theorem known_parse : parseP [49, 44, 32, 50, 46, 53, 32, 35, 32, 120] = (0, [1, mkRat 5 2]) := by kernel_rfl
theorem known_cells : rvsC [1, mkRat 5 2] = [.bool false, natV [1], natV [1], .bool false, natV [5], natV [2]] := by kernel_rfl
theorem law16_known : Go.Ev.Fn CX 14 [] (.bool true) := by
  have hp := data_Parse [49, 44, 32, 50, 46, 53, 32, 35, 32, 120] (by decide)
  rw [known_parse] at hp
  simp only [known_cells, List.length_cons, List.length_nil] at hp
  have o := ref2_Of false [5] [2] (by simp [okL]) (by simp [okL]) (by decide) (by decide)
  have e5 : (rv (mkRat (sgn false (wth [5])) (wth [2])) : SV) = ratV false [5] [2] := by kernel_rfl
  rw [e5] at o
  have r1 : RatA (ratV false [5] [2]) (mkRat (sgn false (wth [5])) (wth [2])) 1 := ⟨_, _, _, rfl, by simp [okL], by simp [okL], by decide, by decide, rfl⟩
  have sm := ref2_Same r1 r1 (by omega) (by omega) (by omega)
  rw [decide_eq_true rfl] at sm
  refine Go.Ev.Fn.intro (fn := Tryz.f14) (body := (Tryz.f14).body.get!) (by kernel_rfl) (by kernel_rfl) (by kernel_rfl) (fun _ => rfl) (Nat.le_of_ble_eq_true (by kernel_rfl)) ?_; unfold Tryz.f14; simp only [Option.get!_some]
  repeat (first | (simp only [go_sem, Nat.reduceEqDiff, Nat.reduceAdd, Nat.reduceSub, Nat.reduceMul, Nat.reduceLeDiff, Nat.reduceLT, reduceIte, reduceCtorEq, Nat.succ_ne_zero, elemsC, Int.reduceToNat, Nat.reducePow, mk_bs, List.drop_succ_cons, List.drop_zero, List.head?_cons]) | (simp (disch := (first | omega | (simp only [AL, List.length_map]; omega))) only [AR, AL, ifT, ifF, take_all, List.length_cons, List.length_nil, Int.reduceToNat, Int.reducePow, Nat.reducePow, mk_bs, List.drop_succ_cons, List.drop_zero, List.head?_cons]) | (refine wk_intro (by kernel_rfl) ?_) | (refine vp_draw (id := 2) (l := [18, 19]) (by kernel_rfl) ?_) | (refine vf_of (by first | exact hp | exact o | exact sm) ?_))
end Go.Proofs.YtkkmnjhecjkhgaaGreatDoor
namespace Go.Proofs.YtkkmnjhecjkhgaaGreatDoor
open Go.Ev
theorem ratT_int (k : Int) : ratT (k : Rat) = sgT (decide (k < 0)) ++ dec k.natAbs := by
  rw [ratT_eq, Rat.num_intCast, Rat.den_intCast, if_pos rfl, List.append_nil]
theorem dec_dropPM (n : Nat) : (dec n).dropWhile isPM = dec n := by
  cases h : dec n with
  | nil => rfl
  | cons b r =>
    have := dec_dig (n := n) (b := b) (by rw [h]; exact List.mem_cons_self)
    have hb : isPM b = false := by
      unfold isPM
      rw [Bool.or_eq_false_iff]
      constructor
      · rw [beq_eq_false_iff_ne]; rintro rfl; exact absurd this.1 (by decide)
      · rw [beq_eq_false_iff_ne]; rintro rfl; exact absurd this.1 (by decide)
    rw [List.dropWhile_cons, hb]
    rfl
theorem expP_int (k : Int) (h : -30 ≤ k ∧ k ≤ 30) : expP (ratT (k : Rat)) = some k := by
  rw [ratT_int]
  have h1 := dec_len_le (n := k.natAbs) (k := 2) (by omega) (by omega)
  have h2 : 0 < (dec k.natAbs).length := List.length_pos_iff.2 (dec_ne _)
  unfold expP
  by_cases hk : k < 0
  · rw [decide_eq_true hk]
    have e : (sgT true ++ dec k.natAbs).dropWhile isPM = dec k.natAbs := by
      show ((45 : UInt8) :: dec k.natAbs).dropWhile isPM = _
      rw [List.dropWhile_cons, show isPM 45 = true from rfl]
      exact dec_dropPM _
    have e2 : (sgT true ++ dec k.natAbs).length = (dec k.natAbs).length + 1 := by show ((45 : UInt8) :: dec k.natAbs).length = _; rw [List.length_cons]
    have e3 : (sgT true ++ dec k.natAbs).head? = some 45 := rfl
    rw [e, e2, e3, natD_dec, digs_dec, if_neg (by rintro (h | h | h | h) <;> first | omega | cases h), if_pos (by omega), if_pos rfl]
    congr 1
    omega
  · rw [decide_eq_false hk]
    have e0 : sgT false ++ dec k.natAbs = dec k.natAbs := rfl
    rw [e0, dec_dropPM, natD_dec, digs_dec, if_neg (by rintro (h | h | h | h) <;> first | omega | cases h), if_pos (by omega), if_neg (dec_head _)]
    congr 1
    omega
theorem no101 {n : Nat} : ∀ b ∈ dec n, b ≠ 101 := fun b hb e => by
  have := dec_dig hb; subst e; exact absurd this.2 (by decide)
theorem ratT_nat (n : Nat) : ratT ((n : Int) : Rat) = dec n := by
  rw [ratT_int, decide_eq_false (by omega)]
  rfl
theorem numP_tens (n : Nat) (k : Int) (hn : n < 4294967296) (h : -30 ≤ k ∧ k ≤ 30) : numP (dec n ++ ([101] ++ ratT (k : Rat))) = (0, ((n : Int) : Rat) * tenR k) := by
  have l1 := dec_len_le (n := n) (k := 10) (by omega) (by omega)
  have l2 := dec_len_le (n := k.natAbs) (k := 2) (by omega) (by omega)
  have l3 : (ratT (k : Rat)).length ≤ 3 := by
    rw [ratT_int, List.length_append]
    have := sgT_len (decide (k < 0))
    omega
  obtain ⟨f1, f2⟩ := front_back (c := 101) (a := dec n) (b := ratT (k : Rat)) no101
  have hd : decP (dec n) = some ((n : Int) : Rat) := by
    rw [← ratT_nat]
    exact decP_ratT (by rw [ratT_nat]; omega)
  unfold numP
  show (if 60 < (dec n ++ 101 :: ratT (k : Rat)).length then _ else _) = _
  rw [if_neg (by rw [List.length_append, List.length_cons]; omega)]
  have hc : (dec n ++ 101 :: ratT (k : Rat)).contains 101 = true := by simp
  have hs : (dec n ++ 101 :: ratT (k : Rat)).contains 47 = false := by
    refine contains_false fun b hb e => ?_
    subst e
    rcases List.mem_append.1 hb with hb | hb
    · exact absurd (dec_dig hb).1 (by decide)
    · rcases List.mem_cons.1 hb with hb | hb
      · exact absurd hb (by decide)
      · rw [ratT_int] at hb
        rcases List.mem_append.1 hb with hb | hb
        · unfold sgT at hb
          split at hb
          · simp at hb
          · simp at hb
        · exact absurd (dec_dig hb).1 (by decide)
  show (if (dec n ++ 101 :: ratT (k : Rat)).contains 101 = true then _ else _) = _
  rw [if_pos hc]
  show (match decP (frontL 101 (dec n ++ 101 :: ratT (k : Rat))), expP (backL 101 (dec n ++ 101 :: ratT (k : Rat))) with
    | some q, some k' => if (dec n ++ 101 :: ratT (k : Rat)).contains 47 = true then _ else _
    | _, _ => _) = _
  rw [f1, f2, hd, expP_int k h, hs]
  rfl
theorem div_zero10 (W : Rat) : W / (10 : Rat) ^ 0 = W := by
  rw [Rat.pow_zero]
  grind
theorem div_ten (W : Rat) (j : Nat) : W / (10 : Rat) ^ j / ((10 : Int) : Rat) = W / (10 : Rat) ^ (j + 1) := by
  have h : (10 : Rat) ^ j ≠ 0 := by
    intro e
    have := Rat.pow_pos (a := 10) (n := j) (by decide)
    rw [e] at this
    exact absurd this (by decide)
  rw [Rat.pow_succ, show ((10 : Int) : Rat) = 10 from rfl]
  generalize (10 : Rat) ^ j = X at *
  grind
theorem mul_ten (W : Rat) (j : Nat) : W * (10 : Rat) ^ j * ((10 : Int) : Rat) = W * (10 : Rat) ^ (j + 1) := by
  rw [Rat.pow_succ, show ((10 : Int) : Rat) = 10 from rfl, Rat.mul_assoc]
theorem ten_end (W : Rat) (k : Int) : W * (10 : Rat) ^ k.toNat / (10 : Rat) ^ (-k).toNat = W * tenR k := by
  unfold tenR
  by_cases hk : k < 0
  · rw [if_pos hk, show k.toNat = 0 by omega, show (-k).toNat = k.natAbs by omega, Rat.pow_zero, Rat.mul_one, Rat.div_def, Rat.div_def, Rat.one_mul]
  · rw [if_neg hk, show k.toNat = k.natAbs by omega, show (-k).toNat = 0 by omega, div_zero10]
theorem mk_nat (n : Nat) : mkRat (sgn false (wth [n])) (wth [1]) = ((n : Int) : Rat) := by
  have h := Rat.mkRat_self ((n : Int) : Rat)
  rw [Rat.num_intCast, Rat.den_intCast] at h
  have e1 : sgn false (wth [n]) = (n : Int) := by simp [sgn, wth]
  have e2 : wth [1] = 1 := rfl
  rw [e1, e2, h]
set_option maxHeartbeats 1000000 in
theorem tens_law (a0 : Int) (w0 : (Lit.int .u32 a0).wf = true) (a1 : Int) (w1 : (Lit.int .i64 a1).wf = true) : Go.Ev.Fn CX 5 [.int .u32 a0, .int .i64 a1] (.bool true) := by
  have hK := law16_known
  by_cases hk1 : a1 < -30
  · refine Go.Ev.Fn.intro (fn := Tryz.f5) (body := (Tryz.f5).body.get!) (by kernel_rfl) (by kernel_rfl) (by kernel_rfl) (fun _ => rfl) (Nat.le_of_ble_eq_true (by kernel_rfl)) ?_; unfold Tryz.f5; simp only [Option.get!_some]
    repeat (first | (simp only [go_sem, Nat.reduceEqDiff, Nat.reduceAdd, Nat.reduceSub, Nat.reduceMul, Nat.reduceLeDiff, Nat.reduceLT, reduceIte, reduceCtorEq, Nat.succ_ne_zero, elemsC, Int.reduceToNat, Nat.reducePow]) | (simp (disch := (first | omega | (simp only [AL, List.length_map]; omega))) only [AR, AL, ifT, ifF, take_all, List.length_cons, List.length_nil, Int.reduceToNat, Int.reducePow, Nat.reducePow]) | (refine wk_intro (by kernel_rfl) ?_) | (refine vp_draw (id := 10) (l := []) (by kernel_rfl) ?_) | (refine vp_draw (id := 14) (l := []) (by kernel_rfl) ?_) | (refine vf_of (by first | exact hK) ?_))
  by_cases hk2 : 30 < a1
  · refine Go.Ev.Fn.intro (fn := Tryz.f5) (body := (Tryz.f5).body.get!) (by kernel_rfl) (by kernel_rfl) (by kernel_rfl) (fun _ => rfl) (Nat.le_of_ble_eq_true (by kernel_rfl)) ?_; unfold Tryz.f5; simp only [Option.get!_some]
    repeat (first | (simp only [go_sem, Nat.reduceEqDiff, Nat.reduceAdd, Nat.reduceSub, Nat.reduceMul, Nat.reduceLeDiff, Nat.reduceLT, reduceIte, reduceCtorEq, Nat.succ_ne_zero, elemsC, Int.reduceToNat, Nat.reducePow]) | (simp (disch := (first | omega | (simp only [AL, List.length_map]; omega))) only [AR, AL, ifT, ifF, take_all, List.length_cons, List.length_nil, Int.reduceToNat, Int.reducePow, Nat.reducePow]) | (refine wk_intro (by kernel_rfl) ?_) | (refine vp_draw (id := 10) (l := []) (by kernel_rfl) ?_) | (refine vp_draw (id := 14) (l := []) (by kernel_rfl) ?_) | (refine vf_of (by first | exact hK) ?_))
  have ha : 0 ≤ a0 ∧ a0 < 4294967296 := by
    have h' : decide (IntKind.u32.min ≤ a0 ∧ a0 ≤ IntKind.u32.max) = true := by simpa [Lit.wf] using w0
    have := of_decide_eq_true h'
    simp only [show IntKind.u32.min = 0 from rfl, show IntKind.u32.max = 4294967295 from rfl] at this
    omega
  obtain ⟨n, rfl⟩ : ∃ n : Nat, a0 = n := ⟨a0.toNat, by omega⟩
  have hn : n < 4294967296 := by omega
  have o := ref2_Of false [n] [1] (by simp [okL]; omega) (by simp [okL]) (by simp) (by simp)
  rw [mk_nat] at o
  have z0 : szR ((n : Int) : Rat) 2 := int_szR (by omega)
  have hrow : RowC (rvC ((n : Int) : Rat)) [((n : Int) : Rat)] 2 := row_rv (l := []) (cs := []) rfl z0
  have dP := data_Print hrow (by omega) (by omega) (by simp)
  have ej : joinW ([((n : Int) : Rat)].map ratT) = dec n := ratT_nat n
  rw [ej] at dP
  have iK := ref2_Int a1 (by omega)
  have rP := ref3_Print (RatA_rv (int_szR (n := a1) (by omega))) (by omega) (by omega)
  have l1 := dec_len_le (n := n) (k := 10) (by omega) (by omega)
  have l2 := dec_len_le (n := a1.natAbs) (k := 2) (by omega) (by omega)
  have l3 : (ratT (a1 : Rat)).length ≤ 3 := by
    rw [ratT_int, List.length_append]
    have := sgT_len (decide (a1 < 0))
    omega
  have hnum := numP_tens n a1 hn (by omega)
  obtain ⟨v, -, hN, hv⟩ := data_Number (dec n ++ ([101] ++ ratT (a1 : Rat))) (by rw [List.length_append, List.length_append]; simp only [List.length_cons, List.length_nil]; omega)
  rw [hnum] at hN hv
  obtain ⟨rfl, hvz⟩ := hv rfl
  have i10 := ref2_Int 10 (by omega)
  have z10 : szR ((10 : Int) : Rat) 2 := int_szR (by omega)
  have hend := ten_end ((n : Int) : Rat) a1
  have ofC : ∀ q : Rat, rv q = .agg (rvC q) := fun _ => rfl
  have szm : ∀ i : Nat, szR (((n : Int) : Rat) * (10 : Rat) ^ i) (2 + 2 * i) := by
    intro i
    induction i with
    | zero => rw [Rat.pow_zero, Rat.mul_one]; exact z0
    | succ i ih =>
      rw [← mul_ten]
      exact szR_mono (szR_mul ih z10 (by omega)) (by omega)
  have szd : ∀ i j : Nat, szR (((n : Int) : Rat) * (10 : Rat) ^ i / (10 : Rat) ^ j) (2 + 2 * i + 2 * j) := by
    intro i j
    induction j with
    | zero =>
      rw [div_zero10]
      exact szm i
    | succ j ih =>
      rw [← div_ten]
      exact szR_mono (szR_div ih z10 (by omega) (by omega)) (by omega)
  have hmT : ∀ i : Nat, i ≤ 30 → Go.Ev.Fn CX 22 [rv (((n : Int) : Rat) * (10 : Rat) ^ i), rv ((10 : Int) : Rat)] (rv (((n : Int) : Rat) * (10 : Rat) ^ (i + 1))) := by
    intro i hi
    have := ref2_Mul (RatA_rv (szm i)) (RatA_rv z10) (by omega) (by omega) (by omega)
    rwa [mul_ten] at this
  have hdT : ∀ i j : Nat, i ≤ 30 → j ≤ 30 → Go.Ev.Fn CX 23 [rv (((n : Int) : Rat) * (10 : Rat) ^ i / (10 : Rat) ^ j), rv ((10 : Int) : Rat)] (.tup [rv (((n : Int) : Rat) * (10 : Rat) ^ i / (10 : Rat) ^ (j + 1)), .bool (decide (((10 : Int) : Rat) ≠ 0))]) := by
    intro i j hi hj
    have := ref2_Div (RatA_rv (szd i j)) (RatA_rv z10) (by omega) (by omega) (by omega)
    rwa [div_ten] at this
  have sm := ref2_Same (RatA_rv hvz) (RatA_rv (szd a1.toNat (-a1).toNat)) (by omega) (by omega) (by omega)
  rw [hend, decide_eq_true rfl] at sm
  simp only [ofC] at sm hN o i10 iK rP hmT hdT
  generalize ((n : Int) : Rat) * tenR a1 = V at *
  clear hnum hv hvz szm szd z10 z0 hrow
  have hl3 : ∀ q : Rat, (rvC q).length = 3 := fun _ => rfl
  have ho : ∀ q : Rat, (rvC q).all SV.one = true := fun _ => rfl
  have htk : ∀ q : Rat, (rvC q).take 3 = rvC q := fun _ => rfl
  refine Go.Ev.Fn.intro (fn := Tryz.f5) (body := (Tryz.f5).body.get!) (by kernel_rfl) (by kernel_rfl) (by kernel_rfl) (fun _ => rfl) (Nat.le_of_ble_eq_true (by kernel_rfl)) ?_; unfold Tryz.f5; simp only [Option.get!_some]
  repeat (first | (simp only [go_sem, Nat.reduceEqDiff, Nat.reduceAdd, Nat.reduceSub, Nat.reduceMul, Nat.reduceLeDiff, Nat.reduceLT, reduceIte, reduceCtorEq, Nat.succ_ne_zero, elemsC, Int.reduceToNat, Nat.reducePow, mk_bs, bs_size, bs_append, hl3, ho, htk, List.length_append, List.length_cons, List.length_nil]) | (simp (disch := (first | omega | (simp only [AL, List.length_map]; omega))) only [AR, AL, ifT, ifF, take_all, List.length_cons, List.length_nil, Int.reduceToNat, Int.reducePow, Nat.reducePow, mk_bs, bs_size, bs_append, hl3, ho, htk, List.length_append, List.length_cons, List.length_nil]) | (refine wk_intro (by kernel_rfl) ?_) | (refine vp_draw (id := 10) (l := []) (by kernel_rfl) ?_) | (refine vp_draw (id := 14) (l := []) (by kernel_rfl) ?_) | (refine vf_of (by first | exact o | exact dP | exact iK | exact rP | exact hN) ?_))
  refine vp_loop_inv (fun s => s.tmp 1 = .sv (.int .i64 a1) ∧ s.tmp 7 = .ptr 7 0 0 ∧ s.obj 7 0 = some (rvC V) ∧ s.tmp 8 = .sv (.int .i64 0) ∧ s.tmp 9 = .ptr 9 0 0 ∧
      ∃ i : Nat, s.tmp 10 = .sv (.int .i64 (i : Int)) ∧ i ≤ a1.toNat ∧ s.obj 9 0 = some (rvC (((n : Int) : Rat) * (10 : Rat) ^ i)))
    (fun s => match s.tmp 10 with | .sv (.int _ i) => a1.toNat - i.toNat | _ => 0) ?_ ?_
  · exact ⟨rfl, rfl, rfl, rfl, rfl, 0, rfl, by omega, by rw [Rat.pow_zero, Rat.mul_one]; rfl⟩
  rintro s ⟨i1, i7, o7, i8, i9, i, i10', hi, o9⟩
  by_cases hend1 : (i : Int) < a1
  · have m1 := hmT i (by omega)
    repeat (first | (simp only [go_sem, Nat.reduceEqDiff, Nat.reduceAdd, Nat.reduceSub, Nat.reduceMul, Nat.reduceLeDiff, Nat.reduceLT, reduceIte, reduceCtorEq, Nat.succ_ne_zero, elemsC, Int.reduceToNat, Nat.reducePow, i1, i7, o7, i8, i9, i10', o9, hl3, ho, htk]) | (simp (disch := (first | omega | (simp only [AL, List.length_map]; omega))) only [AR, AL, ifT, ifF, take_all, List.length_cons, List.length_nil, Int.reduceToNat, Int.reducePow, Nat.reducePow, i1, i7, o7, i8, i9, i10', o9, hl3, ho, htk]) | (refine wk_intro (by kernel_rfl) ?_) | (refine vp_draw (id := 10) (l := []) (by kernel_rfl) ?_) | (refine vp_draw (id := 14) (l := []) (by kernel_rfl) ?_) | (refine vf_of (by first | exact i10 | exact m1) ?_))
    exact ⟨⟨i + 1, rfl, by omega, rfl⟩, by omega⟩
  · have hi2 : i = a1.toNat := by omega
    repeat (first | (simp only [go_sem, Nat.reduceEqDiff, Nat.reduceAdd, Nat.reduceSub, Nat.reduceMul, Nat.reduceLeDiff, Nat.reduceLT, reduceIte, reduceCtorEq, Nat.succ_ne_zero, elemsC, Int.reduceToNat, Nat.reducePow, i1, i7, o7, i8, i9, i10', o9, hl3, ho, htk]) | (simp (disch := (first | omega | (simp only [AL, List.length_map]; omega))) only [AR, AL, ifT, ifF, take_all, List.length_cons, List.length_nil, Int.reduceToNat, Int.reducePow, Nat.reducePow, i1, i7, o7, i8, i9, i10', o9, hl3, ho, htk]) | (refine wk_intro (by kernel_rfl) ?_) | (refine vp_draw (id := 10) (l := []) (by kernel_rfl) ?_) | (refine vp_draw (id := 14) (l := []) (by kernel_rfl) ?_))
    refine vp_loop_inv (fun s => s.tmp 1 = .sv (.int .i64 a1) ∧ s.tmp 7 = .ptr 7 0 0 ∧ s.obj 7 0 = some (rvC V) ∧ s.tmp 8 = .sv (.int .i64 0) ∧ s.tmp 9 = .ptr 9 0 0 ∧
        ∃ j : Nat, s.tmp 11 = .sv (.int .i64 (j : Int)) ∧ j ≤ (-a1).toNat ∧ s.obj 9 0 = some (rvC (((n : Int) : Rat) * (10 : Rat) ^ i / (10 : Rat) ^ j)))
      (fun s => match s.tmp 11 with | .sv (.int _ i) => (-a1).toNat - i.toNat | _ => 0) ?_ ?_
    · exact ⟨i1, i7, o7, i8, i9, 0, rfl, by omega, by rw [div_zero10]; exact o9⟩
    rintro s2 ⟨j1, j7, p7, j8, j9, j, j11, hj, p9⟩
    by_cases hend2 : (j : Int) < -a1
    · have m2 := hdT i j (by omega) (by omega)
      repeat (first | (simp only [go_sem, Nat.reduceEqDiff, Nat.reduceAdd, Nat.reduceSub, Nat.reduceMul, Nat.reduceLeDiff, Nat.reduceLT, reduceIte, reduceCtorEq, Nat.succ_ne_zero, elemsC, Int.reduceToNat, Nat.reducePow, j1, j7, p7, j8, j9, j11, p9, hl3, ho, htk]) | (simp (disch := (first | omega | (simp only [AL, List.length_map]; omega))) only [AR, AL, ifT, ifF, take_all, List.length_cons, List.length_nil, Int.reduceToNat, Int.reducePow, Nat.reducePow, j1, j7, p7, j8, j9, j11, p9, hl3, ho, htk]) | (refine wk_intro (by kernel_rfl) ?_) | (refine vp_draw (id := 10) (l := []) (by kernel_rfl) ?_) | (refine vp_draw (id := 14) (l := []) (by kernel_rfl) ?_) | (refine vf_of (by first | exact i10 | exact m2) ?_))
      exact ⟨⟨j + 1, rfl, by omega, rfl⟩, by omega⟩
    · have hj2 : j = (-a1).toNat := by omega
      rw [hi2, hj2, hend] at p9
      repeat (first | (simp only [go_sem, Nat.reduceEqDiff, Nat.reduceAdd, Nat.reduceSub, Nat.reduceMul, Nat.reduceLeDiff, Nat.reduceLT, reduceIte, reduceCtorEq, Nat.succ_ne_zero, elemsC, Int.reduceToNat, Nat.reducePow, j1, j7, p7, j8, j9, j11, p9, hl3, ho, htk]) | (simp (disch := (first | omega | (simp only [AL, List.length_map]; omega))) only [AR, AL, ifT, ifF, take_all, List.length_cons, List.length_nil, Int.reduceToNat, Int.reducePow, Nat.reducePow, j1, j7, p7, j8, j9, j11, p9, hl3, ho, htk]) | (refine wk_intro (by kernel_rfl) ?_) | (refine vp_draw (id := 10) (l := []) (by kernel_rfl) ?_) | (refine vp_draw (id := 14) (l := []) (by kernel_rfl) ?_) | (refine vf_of (by first | exact sm | exact hK) ?_))
end Go.Proofs.YtkkmnjhecjkhgaaGreatDoor
