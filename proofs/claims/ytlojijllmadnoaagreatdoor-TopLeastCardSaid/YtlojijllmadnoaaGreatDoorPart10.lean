/- Part 10 of the proof: the evaluator, contracts of functions and their plain laws (joined by program). No condition. -/
import Derived.Test.YtlojijllmadnoaaGreatDoorPart9
import Derived.WalkKit
import Derived.OwnWalkIn
import Derived.TacticsInMore
import Derived.RegionIn
import Derived.LoopNIn
import Derived.LoopIn
import Derived.RangeFuncSeq
import Derived.Lib.Builder
import Derived.Lib.Bytealg
import Derived.OrdersIn
import Derived.RangeFuncCalls
import Derived.Shelf.Strings.Builder1
import Derived.RangeFuncLeaves
import Derived.RangeFuncIn
set_option linter.unusedVariables false
set_option linter.unusedSimpArgs false
set_option maxRecDepth 100000
namespace Go.Proofs.YtlojijllmadnoaaGreatDoor
open Go.Ev
theorem set_splice {cs : List SV} {i : Nat} {v : SV} (h : i < cs.length) : cs.take i ++ [v] ++ cs.drop (i + 1) = cs.set i v := by
 rw [List.set_eq_take_append_cons_drop, if_pos h]
 simp
theorem exp_rev {s : St} {cs : List SV} {n : Nat} : expOf s [.impref cs 1 0 n] = [s.obj 1000000 0] := rfl
theorem rev_fn (D : List UInt8) (rest : List SV) (hl : D.length <= 1099511627776) : ∃ r exps, (r = .tup [] /\ exps = [some (u8c D.reverse ++ rest)]) /\
  FnI CX 224 [.impref (u8c D ++ rest) 1 0 D.length] r exps := by
 refine FnI_of (fn := Tryz.f224) (body := (Tryz.f224).body.get!) (by kernel_rfl) (by kernel_rfl) (by kernel_rfl) (fun _ => rfl) (Nat.le_of_ble_eq_true (by kernel_rfl)) ?_
 unfold Tryz.f224
 simp only [Option.get!_some, exp_rev]
 generalize hn : D.length = n at *
 have hD : ∀ k, k < n -> (u8c D ++ rest)[k]? = some (.int .u8 ((D.getD k 0).toNat : Int)) := by
  intro k hk
  rw [List.getElem?_append_left (by rw [u8c_len]; omega)]
  unfold u8c
  rw [List.getElem?_map, List.getD_eq_getElem?_getD, List.getElem?_eq_getElem (by omega)]
  rfl
 have hN : n <= (u8c D ++ rest).length := by rw [List.length_append, u8c_len]; omega
 have hfin : ∀ cs : List SV, cs.length = (u8c D ++ rest).length -> (∀ k, cs[k]? = if k < n then (u8c D ++ rest)[n - 1 - k]? else (u8c D ++ rest)[k]?) -> cs = u8c D.reverse ++ rest := by
  intro cs h1 h2
  refine List.ext_getElem? fun k => ?_
  rw [h2 k]
  split
  ·rename_i hk
   rw [hD _ (by omega), List.getElem?_append_left (by rw [u8c_len, List.length_reverse]; omega)]
   unfold u8c
   rw [List.getElem?_map, List.getElem?_reverse (by omega), List.getD_eq_getElem?_getD, hn, List.getElem?_eq_getElem (by omega)]
   rfl
  ·rw [List.getElem?_append_right (by rw [u8c_len]; omega), List.getElem?_append_right (by rw [u8c_len, List.length_reverse]; omega), u8c_len, u8c_len, List.length_reverse]
 generalize hcs : u8c D ++ rest = C0 at *
 generalize hR : u8c D.reverse ++ rest = R at *
 repeat (first|simp only [go_sem, N0]|simp (disch := first|exact oa|fail) only [AX, N0]|refine wki ?_|refine wqn ?_|refine vpx [] ?_)
 refine vp_loop_inv (fun s => s.tmp 0 = .ref 1000000 0 1 0 n /\ ∃ (i : Nat) (j : Int) (cs : List SV), s.tmp 2 = .sv (.int .i64 (i : Int)) /\ s.tmp 3 = .sv (.int .i64 j) /\ s.obj 1000000 0 = some cs /\ (i : Int) + j + 1 = n /\ (i : Int) <= j + 2 /\ cs.length = C0.length /\
   ∀ k : Nat, cs[k]? = if k < n /\ (k < i \/ n <= k + i) then C0[n - 1 - k]? else C0[k]?)
  (fun s => match s.tmp 2 with | .sv (.int _ i) => n - i.toNat | _ => 0) ?_ ?_
 ·refine ⟨rfl, 0, _, C0, rfl, rfl, rfl, by omega, by omega, rfl, fun k => ?_⟩
  rw [if_neg (by omega)]
 rintro s ⟨i0, i, j, cs, i2, i3, iO, hij, hle, hlen, hk⟩
 by_cases hend : (i : Int) < j
 ·obtain ⟨m, rfl⟩ : ∃ m : Nat, j = m := ⟨j.toNat, by omega⟩
  have hi' := hk i
  rw [if_neg (by omega), hD i (by omega)] at hi'
  have hm' := hk m
  rw [if_neg (by omega), hD m (by omega)] at hm'
  have h1 : (cs.drop i).head? = some (.int .u8 ((D.getD i 0).toNat : Int)) := by rw [List.head?_drop]; exact hi'
  have h2 : (cs.drop m).head? = some (.int .u8 ((D.getD m 0).toNat : Int)) := by rw [List.head?_drop]; exact hm'
  generalize hx : (D.getD i 0).toNat = x at *
  generalize hy : (D.getD m 0).toNat = y at *
  have s1 : cs.take i ++ [SV.int .u8 (y : Int)] ++ cs.drop (i + 1) = cs.set i (.int .u8 (y : Int)) := set_splice (by omega)
  have s2 : (cs.set i (.int .u8 (y : Int))).take m ++ [SV.int .u8 (x : Int)] ++ (cs.set i (.int .u8 (y : Int))).drop (m + 1) = (cs.set i (.int .u8 (y : Int))).set m (.int .u8 (x : Int)) := set_splice (by rw [List.length_set]; omega)
  have l2 : (cs.set i (.int .u8 (y : Int))).length = cs.length := List.length_set
  repeat (first|simp only [go_sem, i0, i2, i3, iO, h1, h2, hlen, s1, s2, l2]|simp (disch := first|exact oa|fail) only [AX, i0, i2, i3, iO, h1, h2, hlen, s1, s2, l2]|refine wki ?_|refine wqn ?_|refine vpx [] ?_)
  refine ⟨⟨i + 1, ((m - 1 : Nat) : Int), _, rfl, rfl, rfl, by omega, by omega, by rw [List.length_set, List.length_set]; exact hlen, fun k => ?_⟩, by omega⟩
  by_cases hkm : m = k
  ·subst hkm
   rw [List.getElem?_set_self (by rw [List.length_set]; omega), if_pos (by omega), show n - 1 - m = i by omega, hD i (by omega), hx]
  ·rw [List.getElem?_set_ne hkm]
   by_cases hki : i = k
   ·subst hki
    rw [List.getElem?_set_self (by omega), if_pos (by omega), show n - 1 - i = m by omega, hD m (by omega), hy]
   ·rw [List.getElem?_set_ne hki, hk k]
    by_cases hc : k < n /\ (k < i \/ n <= k + i)
    ·rw [if_pos hc, if_pos (by omega)]
    ·rw [if_neg hc, if_neg (by omega)]
 ·have he : cs = R := by
   refine hfin cs hlen fun k => ?_
   rw [hk k]
   by_cases hkn : k < n
   ·rw [if_pos hkn]
    by_cases hc : k < n /\ (k < i \/ n <= k + i)
    ·rw [if_pos hc]
    ·rw [if_neg hc]
     congr 1
     omega
   ·rw [if_neg hkn, if_neg (by omega)]
  subst he
  repeat (first|simp only [go_sem, i0, i2, i3, iO]|simp (disch := first|exact oa|fail) only [AX, i0, i2, i3, iO]|refine wki ?_|refine wqn ?_|refine vpx [] ?_)
  exact ⟨_, _, ⟨rfl, rfl⟩, rfl, rfl⟩
theorem u_bytes : Tryz.prog.underlying 63 = some (.slice 5) := by kernel_rfl
theorem u_str : Tryz.prog.underlying 9 = some .string := by kernel_rfl
theorem u_byte : isInt Tryz.prog 5 = some .u8 := by kernel_rfl
theorem dig_ix (r : Nat) : ([48, 49, 50, 51, 52, 53, 54, 55, 56, 57] : List UInt8)[r % 10]? = some (UInt8.ofNat (48 + r % 10)) := by
 have key : ∀ k : Nat, k < 10 -> ([48, 49, 50, 51, 52, 53, 54, 55, 56, 57] : List UInt8)[k]? = some (UInt8.ofNat (48 + k)) := by decide
 exact key _ (Nat.mod_lt _ (by omega))
theorem u8c_snoc (l : List UInt8) (b : UInt8) : u8c l ++ [SV.int .u8 (b.toNat : Int)] = u8c (l ++ [b]) := by simp [u8c]
theorem len_of_dec {L : List UInt8} {n m K : Nat} (hn : n < 10 ^ K) (h : natLE L + 10 ^ L.length * m = n) (hm : m ≠ 0) : L.length < K := by
 have h1 : 10 ^ L.length * 1 <= 10 ^ L.length * m := Nat.mul_le_mul_left _ (by omega)
 exact (Nat.pow_lt_pow_iff_right (a := 10) (by omega)).1 (by omega)
theorem nat_Print (n K : Nat) (hK : n < 10 ^ K) (hk : K <= 400) : Go.Ev.Fn CX 150 [natV (lim n)] (.str (bs (dec n))) := by
 have hlim := lim_ten hK
 have hT := nat_Trim (lim n) (okL_lim _) (by omega)
 rw [wth_lim] at hT
 by_cases hn : n = 0
 ·subst hn
  rw [show dec 0 = [48] from rfl]
  rw [lim_zero] at hT ⊢
  refine fni Tryz.f150 ?_; unfold Tryz.f150; simp only [Option.get!_some]
  repeat (first|simp only [go_sem, mk_bs]|simp (disch := first|exact oa|fail) only [AX, mk_bs]|refine wki ?_|refine wqn ?_|refine vf_of (by first|exact hT) ?_)
 have hpos := lim_pos hn
 refine fni Tryz.f150 ?_; unfold Tryz.f150; simp only [Option.get!_some]
 repeat (first|simp only [go_sem]|simp (disch := first|exact oa|fail) only [AX]|refine wki ?_|refine wqn ?_|refine vf_of (by first|exact hT) ?_)
 refine vp_mono (R := fun e s => e = .exit 0 /\ ∃ l : List UInt8, s.tmp 3 = .ref 26 0 1 0 l.length /\ s.obj 26 0 = some (u8c l) /\ digs l = true /\ natLE l = n /\ l.length <= 1000) ?_ ?_
 ·refine vp_loop_inv (fun s => ∃ (m : Nat) (L : List UInt8), s.tmp 0 = .sv (natV (lim m)) /\ m <= n /\ digs L = true /\ natLE L + 10 ^ L.length * m = n /\ L.length <= 409 /\
    ((L = [] /\ s.tmp 3 = .nil /\ s.gen 26 = 0) \/ (L ≠ [] /\ s.tmp 3 = .ref 26 0 1 0 L.length /\ s.obj 26 0 = some (u8c L))))
   (fun s => match s.tmp 0 with | .sv (.sl _ cs) => (match decL cs with | some l => wth l | none => 0) | _ => 0) ?_ ?_
  ·exact ⟨n, [], rfl, Nat.le_refl _, rfl, by simp [natLE], by simp, .inl ⟨rfl, rfl, rfl⟩⟩
  rintro s ⟨m, L, i0, hmn, hdL, hv, hL, hc⟩
  by_cases hm : m = 0
  ·subst hm
   rw [Nat.mul_zero, Nat.add_zero] at hv
   rcases hc with ⟨rfl, _⟩ | ⟨_, i3, iO⟩
   ·exact absurd hv.symm hn
   ·rw [lim_zero] at i0
    repeat (first|simp only [go_sem, i0, i3, iO]|simp (disch := first|exact oa|fail) only [AX, i0, i3, iO]|refine wki ?_|refine wqn ?_)
    exact ⟨L, rfl, rfl, hdL, hv, by omega⟩
  ·have hLl := len_of_dec hK hv hm
   have h1 := lim_pos hm
   have h2 := lim_ten (Nat.lt_of_le_of_lt hmn hK)
   have hs := nat_small (lim m) 1000000000 (okL_lim _) (by omega) (by omega) (by omega)
   rw [wth_lim] at hs
   have hr0 : m % 1000000000 < 1000000000 := Nat.mod_lt _ (by omega)
   have hdm : m % 1000000000 + 1000000000 * (m / 1000000000) = m := Nat.mod_add_div _ _
   have hlt : m / 1000000000 < m := Nat.div_lt_self (by omega) (by omega)
   generalize hr : m % 1000000000 = r0 at *
   generalize hq : m / 1000000000 = q at *
   repeat (first|simp only [go_sem, i0]|simp (disch := first|exact oa|fail) only [AX, i0]|refine wki ?_|refine wqn ?_|refine vf_of (by first|exact hs) ?_)
   refine vp_loop_inv (fun s' => s'.tmp 4 = .sv (natV (lim q)) /\ ∃ i : Nat, s'.tmp 19 = .sv (.int .i64 (i : Int)) /\ i <= 9 /\ s'.tmp 5 = .sv (limb (r0 / 10 ^ i)) /\
     ((L ++ dgN i r0 = [] /\ s'.tmp 3 = .nil /\ s'.gen 26 = 0) \/ (L ++ dgN i r0 ≠ [] /\ s'.tmp 3 = .ref 26 0 1 0 (L ++ dgN i r0).length /\ s'.obj 26 0 = some (u8c (L ++ dgN i r0)))))
    (fun s => match s.tmp 19 with | .sv (.int _ i) => 9 - i.toNat | _ => 0) ?_ ?_
   ·refine ⟨rfl, 0, rfl, by omega, by rw [Nat.pow_zero, Nat.div_one]; rfl, ?_⟩
    rw [show dgN 0 r0 = [] from rfl, List.append_nil]
    exact hc
   rintro s2 ⟨j4, i, j19, hi, j5, hc2⟩
   have hlen : (L ++ dgN i r0).length <= 500 := by rw [List.length_append, dgN_len]; omega
   by_cases hend : i = 9
   ·subst hend
    have hL9 : L ++ dgN 9 r0 ≠ [] := by
     intro h
     have := congrArg List.length h
     rw [List.length_append, dgN_len] at this
     simp at this
    rcases hc2 with ⟨h0, _⟩ | ⟨_, j3, jO⟩
    ·exact absurd h0 hL9
    ·repeat (first|simp only [go_sem, j4, j19, j5, j3, jO]|simp (disch := first|exact oa|fail) only [AX, j4, j19, j5, j3, jO]|refine wki ?_|refine wqn ?_)
     refine ⟨⟨q, L ++ dgN 9 r0, rfl, by omega, ?_, ?_, by rw [List.length_append, dgN_len]; omega, .inr ⟨hL9, by rw [List.length_append], rfl⟩⟩, ?_⟩
     ·rw [digs_app, hdL, dgN_digs]; rfl
     ·rw [natLE_append, natLE_dgN, List.length_append, dgN_len, Nat.mod_eq_of_lt hr0, <- hv, <- hdm, Nat.pow_add, Nat.mul_add]
      have : 10 ^ L.length * 10 ^ 9 * q = 10 ^ L.length * (1000000000 * q) := by rw [Nat.mul_assoc]
      omega
     ·rw [decL_map (okL_lim _), decL_map (okL_lim _)]
      dsimp only
      rw [wth_lim, wth_lim]
      exact hlt
   ·have hx := dig_ix (r0 / 10 ^ i)
    have hsn : dgN (i + 1) r0 = dgN i r0 ++ [UInt8.ofNat (48 + r0 / 10 ^ i % 10)] := dgN_snoc i r0
    have hdd : r0 / 10 ^ i / 10 = r0 / 10 ^ (i + 1) := by rw [Nat.div_div_eq_div_mul, <- Nat.pow_succ]
    have hx32 : r0 / 10 ^ i < 1000000000 := Nat.lt_of_le_of_lt (Nat.div_le_self _ _) hr0
    have hap := u8c_snoc (L ++ dgN i r0) (UInt8.ofNat (48 + r0 / 10 ^ i % 10))
    rw [List.append_assoc, <- hsn] at hap
    have hlen1 : (L ++ dgN (i + 1) r0).length = (L ++ dgN i r0).length + 1 := by rw [List.length_append, List.length_append, dgN_len, dgN_len]; omega
    have hne1 : L ++ dgN (i + 1) r0 ≠ [] := by intro h; rw [h] at hlen1; simp at hlen1
    have hcl := u8c_len (L ++ dgN i r0)
    generalize hL2 : L ++ dgN (i + 1) r0 = L2 at *
    have hL3 : L.length + (dgN (i + 1) r0).length = L2.length := by rw [<- hL2, List.length_append]
    generalize L ++ dgN i r0 = L1 at *
    generalize r0 / 10 ^ i = x at *
    have e10 : (x : Int).tmod 10 = ((x % 10 : Nat) : Int) := by rw [Int.tmod_eq_emod_of_nonneg (by omega)]; omega
    have e11 : (x : Int).tdiv 10 = ((x / 10 : Nat) : Int) := by rw [Int.tdiv_eq_ediv_of_nonneg (by omega)]; omega
    generalize UInt8.ofNat (48 + x % 10) = b at *
    clear hdm hlt hv hr0 hsn hLl
    rcases hc2 with ⟨h0, j3, jg⟩ | ⟨h0, j3, jO⟩
    ·subst h0
     simp only [u8c, List.map_nil, List.nil_append] at hap
     repeat (first|simp only [go_sem, j4, j19, j5, j3, jg, mk_bs, vo_ix, idxB_bs, hx, e10, e11, Int.toNat_natCast]|simp (disch := first|exact oa|fail) only [AX, j4, j19, j5, j3, jg, mk_bs, vo_ix, idxB_bs, hx, e10, e11, Int.toNat_natCast]|refine wki ?_|refine wqn ?_)
     exact ⟨⟨i + 1, rfl, by omega, by rw [<- hdd], .inr ⟨by rw [hL2]; exact hne1, by rw [hL3, hlen1]; rfl, by rw [hL2]; exact hap⟩⟩, by omega⟩
    ·repeat (first|simp only [go_sem, j4, j19, j5, j3, jO, mk_bs, vo_ix, idxB_bs, hx, hcl, e10, e11, Int.toNat_natCast, N0]|simp (disch := first|exact oa|fail) only [AX, j4, j19, j5, j3, jO, mk_bs, vo_ix, idxB_bs, hx, hcl, e10, e11, Int.toNat_natCast, N0]|refine wki ?_|refine wqn ?_)
     exact ⟨⟨i + 1, rfl, by omega, by rw [<- hdd], .inr ⟨by rw [hL2]; exact hne1, by first | rw [hL3, hlen1] | rw [hL2, hlen1], by rw [hL2]; first | exact hap | (rw [<- hap])⟩⟩, by omega⟩
 rintro e s ⟨rfl, l, i3, iO, hd, hv, hl⟩
 repeat (first|simp only [go_sem]|simp (disch := first|exact oa|fail) only [AX]|refine wki ?_|refine wqn ?_)
 refine vp_mono (R := fun e s => e = .exit 4 /\ ∃ rest : List SV, s.tmp 3 = .ref 26 0 1 0 (dgR n).length /\ s.obj 26 0 = some (u8c (dgR n) ++ rest)) ?_ ?_
 ·refine vp_loop_inv (fun s => ∃ (l : List UInt8) (rest : List SV), s.tmp 3 = .ref 26 0 1 0 l.length /\ s.obj 26 0 = some (u8c l ++ rest) /\ digs l = true /\ natLE l = n /\ l.length <= 1000)
   (fun s => match s.tmp 3 with | .ref _ _ _ _ n => n | _ => 0) ⟨l, [], i3, by rw [List.append_nil]; exact iO, hd, hv, hl⟩ ?_
  rintro s ⟨l, rest, i3, iO, hd, hv, hl⟩
  have hcl := u8c_len l
  rcases dgR_strip hd hv hn with ⟨c, h1, h2, h3⟩ | ⟨l', rfl, h2, h3, h4⟩
  ·by_cases hl1 : l.length <= 1
   ·repeat (first|simp only [go_sem, i3, iO]|simp (disch := first|exact oa|fail) only [AX, i3, iO]|refine wki ?_|refine wqn ?_)
    exact ⟨rest, by rw [<- h3], by rw [<- h3]⟩
   ·have hh : ((u8c l ++ rest).drop (l.length - 1)).head? = some (.int .u8 (c.toNat : Int)) := by
     rw [List.head?_drop, List.getElem?_append_left (by rw [u8c_len]; omega)]
     unfold u8c
     rw [List.getElem?_map, <- List.getLast?_eq_getElem?, h1]
     rfl
    have hc48 : ¬ (c.toNat : Int) = 48 := fun e => h2 (UInt8.toNat_inj.1 (by rw [show (48 : UInt8).toNat = 48 from rfl]; omega))
    repeat (first|simp only [go_sem, i3, iO, hh, hc48]|simp (disch := first|exact oa|fail) only [AX, i3, iO, hh, hc48]|refine wki ?_|refine wqn ?_)
    exact ⟨rest, by rw [<- h3], by rw [<- h3]⟩
  ·have hl2 : 0 < l'.length := List.length_pos_iff.2 h2
   have hll : (l' ++ [48]).length = l'.length + 1 := by simp
   have hh : ((u8c (l' ++ [48]) ++ rest).drop l'.length).head? = some (.int .u8 48) := by
    rw [u8c_app, List.append_assoc, List.drop_append_of_le_length (by rw [u8c_len]; exact Nat.le_refl _), List.drop_of_length_le (by rw [u8c_len]; exact Nat.le_refl _)]
    rfl
   have e2 : u8c (l' ++ [48]) ++ rest = u8c l' ++ (.int .u8 48 :: rest) := by rw [u8c_app, List.append_assoc]; rfl
   rw [hll] at i3
   repeat (first|simp only [go_sem, i3, iO, hh, Nat.add_sub_cancel]|simp (disch := first|exact oa|fail) only [AX, i3, iO, hh, Nat.add_sub_cancel]|refine wki ?_|refine wqn ?_)
   exact ⟨⟨l', .int .u8 48 :: rest, rfl, by first | rfl | (rw [<- e2]; exact iO) | exact e2, h3, h4, by omega⟩, by omega⟩
 rintro e s ⟨rfl, rest, i3, iO⟩
 repeat (first|simp only [go_sem]|simp (disch := first|exact oa|fail) only [AX]|refine wki ?_|refine wqn ?_)
 have hdl := dgR_len_le hK
 obtain ⟨r, exps, ⟨rfl, rfl⟩, hf⟩ := rev_fn (dgR n) rest (by omega)
 have htk : (u8c (dgR n).reverse ++ rest).take (dgR n).length = u8c (dec n) := by
  rw [dec_pos hn, List.take_append_of_le_length (by rw [u8c_len, List.length_reverse]; exact Nat.le_refl _), List.take_of_length_le (by rw [u8c_len, List.length_reverse]; exact Nat.le_refl _)]
 have hcl : (u8c (dec n)).length = (dgR n).length := by rw [u8c_len, dec_pos hn, List.length_reverse]
 have hby := u8c_bytes (dec n)
 repeat (first|simp only [go_sem, i3, iO]|simp (disch := first|exact oa|fail) only [AX, i3, iO]|refine wki ?_|refine wqn ?_)
 refine vi_of hf rfl ?_
 repeat (first|simp only [go_sem, i3, iO, htk, hby, hcl, mk_bs, u_bytes, u_str, u_byte]|simp (disch := first|exact oa|fail) only [AX, i3, iO, htk, hby, hcl, mk_bs, u_bytes, u_str, u_byte]|refine wki ?_|refine wqn ?_)
end Go.Proofs.YtlojijllmadnoaaGreatDoor
namespace Go.Proofs.YtlojijllmadnoaaGreatDoor
open Go.Ev
def sgT (s : Bool) : List UInt8 := if s then [45] else []
theorem sgT_len (s : Bool) : (sgT s).length <= 1 := by cases s <;> decide
theorem ratT_eq (q : Rat) : ratT q = sgT (decide (q.num < 0)) ++ dec q.num.natAbs ++ (if q.den = 1 then [] else 47 :: dec q.den) := by
 unfold ratT sgT
 by_cases h : q.num < 0 <;> simp [h]
theorem lim20 {n : Nat} (h : (lim n).length <= 20) : n < 10 ^ 200 := by
 have h1 := wth_lt (okL_lim n)
 rw [wth_lim] at h1
 have h2 : 4294967296 ^ (lim n).length <= 4294967296 ^ 20 := Nat.pow_le_pow_right (by omega) h
 exact Nat.lt_of_lt_of_le h1 (Nat.le_trans h2 (Nat.le_of_ble_eq_true (by kernel_rfl)))
theorem dec_sign (s : Bool) (n d : List Nat) : Go.Ev.Fn CX 149 [ratV s n d] (.str (bs (sgT s))) := by
 have z0 : sgT false = [] := rfl
 have z1 : sgT true = [45] := rfl
 cases s
 ·rw [z0]
  refine fni Tryz.f149 ?_; unfold Tryz.f149; simp only [Option.get!_some]
  repeat (first|simp only [go_sem, mk_bs]|simp (disch := first|exact oa|fail) only [AX, mk_bs]|refine wki ?_|refine wqn ?_)
 ·rw [z1]
  refine fni Tryz.f149 ?_; unfold Tryz.f149; simp only [Option.get!_some]
  repeat (first|simp only [go_sem, mk_bs]|simp (disch := first|exact oa|fail) only [AX, mk_bs]|refine wki ?_|refine wqn ?_)
theorem cmpN_one {d : Nat} : (cmpN d 1 != 0) = !(decide (d = 1)) := by
 unfold cmpN
 by_cases h : d = 1
 ·subst h; rfl
 ·rw [decide_eq_false h]
  by_cases h0 : d < 1
  ·rw [if_pos h0]; rfl
  ·rw [if_neg h0, if_neg h]; rfl
theorem dec_Print {v : SV} {q : Rat} {L : Nat} (h : RatA v q L) (hL : 1 <= L) (hL2 : L <= 20) : Go.Ev.Fn CX 110 [v] (.str (bs (ratT q))) := by
 have hn : Go.Ev.Fn CX 57 [v] (ratV (decide (q.num < 0)) (lim q.num.natAbs) (lim q.den)) := rat_Norm h (by omega)
 obtain ⟨z1, z2⟩ := szR_of h hL
 have p1 := nat_Print q.num.natAbs 200 (lim20 (by omega)) (by omega)
 have p2 := nat_Print q.den 200 (lim20 (by omega)) (by omega)
 have l1 := dec_len_le (lim20 (n := q.num.natAbs) (by omega)) (by omega)
 have l2 := dec_len_le (lim20 (n := q.den) (by omega)) (by omega)
 have o1 := nat_Of 1 (by omega)
 have c := nat_CmpL (N := q.den) (D := 1) (by omega) (by decide)
 have sg := dec_sign (decide (q.num < 0)) (lim q.num.natAbs) (lim q.den)
 have l0 := sgT_len (decide (q.num < 0))
 have cn := cmpN_one (d := q.den)
 rw [ratT_eq]
 obtain ⟨s, n, d, rfl, -⟩ := h
 generalize decide (q.num < 0) = S at *
 generalize q.num.natAbs = N at *
 generalize q.den = D at *
 generalize sgT S = T at *
 by_cases hD : D = 1
 ·rw [if_pos hD, List.append_nil]
  rw [decide_eq_true hD] at cn
  refine fni Tryz.f110 ?_; unfold Tryz.f110; simp only [Option.get!_some]
  repeat (first|simp only [go_sem, mk_bs, bs_size, bs_append, cn, Bool.not_true]|simp (disch := first|exact oa|fail) only [AX, mk_bs, bs_size, bs_append, cn, Bool.not_true]|refine wki ?_|refine wqn ?_|refine vpd 2 [9] ?_|refine vpd 3 [13, 14] ?_|refine vf_of (by first|exact hn|exact sg|exact p1|exact o1|exact c) ?_)
 ·rw [if_neg hD]
  rw [decide_eq_false hD] at cn
  refine fni Tryz.f110 ?_; unfold Tryz.f110; simp only [Option.get!_some]
  repeat (first|simp only [go_sem, mk_bs, bs_size, bs_append, cn, Bool.not_false, List.length_append]|simp (disch := first|exact oa|fail) only [AX, mk_bs, bs_size, bs_append, cn, Bool.not_false, List.length_append]|refine wki ?_|refine wqn ?_|refine vpd 2 [9] ?_|refine vpd 3 [13, 14] ?_|refine vf_of (by first|exact hn|exact sg|exact p1|exact o1|exact c|exact p2) ?_)
end Go.Proofs.YtlojijllmadnoaaGreatDoor
namespace Go.Proofs.YtlojijllmadnoaaGreatDoor
open Go.Ev
theorem stat_by {v : SV} {q : Rat} {n : Int} {L : Nat} (hv : RatA v q L) (hL : 1 <= L) (hL2 : L <= 10000000) (hn : -9223372036854775808 <= n /\ n < 9223372036854775808) :
  Go.Ev.Fn CX 228 [v, .int .i64 n] (rv (q / (n : Rat))) := by
 have r := rat_Int n hn
 have d := rat_Div hv (RatA_rv (int_szR (n := n) (by omega))) hL (by omega) (by omega)
 generalize decide ((n : Rat) ≠ 0) = b at *
 obtain ⟨s, y, d', rfl, -⟩ := hv
 refine fni Tryz.f228 ?_; unfold Tryz.f228; simp only [Option.get!_some]
 repeat (first|simp only [go_sem]|simp (disch := first|exact oa|fail) only [AX]|refine wki ?_|refine wqn ?_|refine vpd 1 [] ?_|refine vf_of (by first|exact r|exact d) ?_)
theorem stat_Sum {cs : List SV} {l : List Rat} {L : Nat} (h : RowC cs l L) (hL : 1 <= L) (hL2 : L <= 100000) (hl : l.length <= 12) :
  Go.Ev.Fn CX 162 [.sl l.length cs] (rv (sumR l)) := by
 have r0 := rat_Int 0 (by omega)
 have hlen := row_len h
 have hz := row_sz hL h
 refine fni Tryz.f162 ?_; unfold Tryz.f162; simp only [Option.get!_some]
 repeat (first|simp only [go_sem]|simp (disch := first|exact oa|fail) only [AX]|refine wki ?_|refine wqn ?_|refine vf_of (by first|exact r0) ?_)
 refine vp_loop_inv (fun s => s.tmp 7 = .sv (.sl l.length cs) /\ s.tmp 8 = .sv (.int .i64 (l.length : Int)) /\ s.tmp 2 = .ptr 2 0 0 /\ s.obj 2 0 = some [.bool false, .sl 0 [], .sl 0 []] /\ s.tmp 3 = .ptr 3 0 0 /\
   ∃ i : Nat, s.tmp 9 = .sv (.int .i64 (i : Int)) /\ i <= l.length /\ s.obj 3 0 = some (rvC (sumR (l.take i))))
  (fun s => match s.tmp 9 with | .sv (.int _ i) => l.length - i.toNat | _ => 0) ⟨rfl, rfl, rfl, rfl, rfl, 0, rfl, by omega, rfl⟩ ?_
 rintro s2 ⟨i7, i8, i2, iO, i3, i, i9, hi, iP⟩
 by_cases hend : i = l.length
 ·subst hend
  rw [List.take_length] at iP
  repeat (first|simp only [go_sem, i7, i8, i2, iO, i3, i9, iP, rvC]|simp (disch := first|exact oa|fail) only [AX, i7, i8, i2, iO, i3, i9, iP, rvC]|refine wki ?_|refine wqn ?_)
 ·obtain ⟨s, n, d, rest, hat, hA⟩ := row_at (i := i) h (by omega)
  have hS := sumR_take l (i := i) (by omega)
  have z := sz_take12 hL hz hl i
  have a := rat_Add (RatA_rv z) hA (by omega) hL (by omega)
  rw [<- hS] at a
  clear hz z h hS hA
  repeat (first|simp only [go_sem, i7, i8, i2, iO, i3, i9, iP, rvC, hat, hlen]|simp (disch := first|exact oa|fail) only [AX, i7, i8, i2, iO, i3, i9, iP, rvC, hat, hlen]|refine wki ?_|refine wqn ?_|refine vf_of (by first|exact a) ?_)
  exact ⟨⟨i + 1, rfl, by omega, rfl⟩, by omega⟩
abbrev numE (q : Rat) (e : Int) : SV := .tup [rv q, .int .i64 e]
theorem stat_Mean {cs : List SV} {l : List Rat} {L : Nat} (h : RowC cs l L) (hL : 1 <= L) (hL2 : L <= 100000) (hl : l.length <= 12) :
  Go.Ev.Fn CX 157 [.sl l.length cs] (if l.length = 0 then numE 0 5 else numE (meanR l) 0) := by
 have r0 := rat_Int 0 (by omega)
 by_cases h0 : l.length = 0
 ·rw [if_pos h0]
  refine fni Tryz.f157 ?_; unfold Tryz.f157; simp only [Option.get!_some]
  repeat (first|simp only [go_sem]|simp (disch := first|exact oa|fail) only [AX]|refine wki ?_|refine wqn ?_|refine vf_of (by first|exact r0) ?_)
  rfl
 ·rw [if_neg h0]
  have s1 := stat_Sum h hL hL2 hl
  have b1 := stat_by (n := (l.length : Int)) (RatA_rv (sz_sum12 hL (row_sz hL h) hl)) (by omega) (by omega) (by omega)
  rw [show sumR l / ((l.length : Int) : Rat) = meanR l from rfl] at b1
  clear h
  refine fni Tryz.f157 ?_; unfold Tryz.f157; simp only [Option.get!_some]
  repeat (first|simp only [go_sem]|simp (disch := first|exact oa|fail) only [AX]|refine wki ?_|refine wqn ?_|refine vf_of (by first|exact s1|exact b1) ?_)
theorem rvs_snoc {l : List Rat} {i : Nat} (h : i < l.length) : rvsC (l.take i) ++ rvC (l.getD i 0) = rvsC (l.take (i + 1)) := by rw [take_snoc l h, rvsC_snoc]
theorem stat_off {cs : List SV} {l : List Rat} {L : Nat} (h : RowC cs l L) (hL : 1 <= L) (hL2 : L <= 100000) (hl : l.length <= 12) (h0 : 1 <= l.length) :
  Go.Ev.Fn CX 231 [.sl l.length cs] (.sl l.length (rvsC (offR l))) := by
 have m1 := stat_Mean h hL hL2 hl
 rw [if_neg (by omega)] at m1
 have hz := row_sz hL h
 have zm := sz_mean hL hz hl
 have hlen := row_len h
 have hol : (offR l).length = l.length := by unfold offR; rw [List.length_map]
 refine fni Tryz.f231 ?_; unfold Tryz.f231; simp only [Option.get!_some]
 repeat (first|simp only [go_sem]|simp (disch := first|exact oa|fail) only [AX]|refine wki ?_|refine wqn ?_|refine vf_of (by first|exact m1) ?_)
 refine vp_loop_inv (fun s => s.tmp 13 = .sv (.sl l.length cs) /\ s.tmp 14 = .sv (.int .i64 (l.length : Int)) /\ s.tmp 3 = .ptr 3 0 0 /\ s.obj 3 0 = some (rvC (meanR l)) /\
   ∃ i : Nat, s.tmp 15 = .sv (.int .i64 (i : Int)) /\ i <= l.length /\ ((i = 0 /\ s.tmp 5 = .nil /\ s.gen 24 = 0) \/ (0 < i /\ s.tmp 5 = .ref 24 0 3 0 i /\ s.obj 24 0 = some (rvsC ((offR l).take i)))))
  (fun s => match s.tmp 15 with | .sv (.int _ i) => l.length - i.toNat | _ => 0) ⟨rfl, rfl, rfl, rfl, 0, rfl, by omega, .inl ⟨rfl, rfl, rfl⟩⟩ ?_
 rintro s2 ⟨i13, i14, i3, iO, i, i15, hi, hc⟩
 by_cases hend : i = l.length
 ·subst hend
  rcases hc with ⟨h00, _⟩ | ⟨_, i5, iP⟩
  ·omega
  ·rw [List.take_of_length_le (by omega)] at iP
   have hrl := rvsC_len (offR l)
   repeat (first|simp only [go_sem, i13, i14, i3, iO, i15, i5, iP, rvC]|simp (disch := first|exact oa|fail) only [AX, i13, i14, i3, iO, i15, i5, iP, rvC]|refine wki ?_|refine wqn ?_)
   refine ro_ref (cs := rvsC (offR l)) (by decide) ?_ ?_
   ·simp only [go_sem, i5, iP]
   ·rw [List.drop_zero, List.take_of_length_le (by omega)]
 ·obtain ⟨s, n, d, rest, hat, hA⟩ := row_at (i := i) h (by omega)
  have a := rat_Sub hA (RatA_rv zm) hL (by omega) (by omega)
  have hd : (offR l).getD i 0 = l.getD i 0 - meanR l := by unfold offR; rw [getD_map l _ (by omega)]
  have hsn := rvs_snoc (l := offR l) (i := i) (by omega)
  rw [hd] at hsn
  have hrl := rvsC_len ((offR l).take i)
  rw [List.length_take, hol, Nat.min_eq_left (by omega)] at hrl
  clear hz zm h hd hA
  rcases hc with ⟨h00, i5, ig⟩ | ⟨h00, i5, iP⟩
  ·subst h00
   rw [List.take_zero, rvsC_nil, List.nil_append] at hsn
   rw [Nat.zero_mul, List.drop_zero] at hat
   subst hat
   repeat (first|simp only [go_sem, i13, i14, i3, iO, i15, i5, ig, rvC, N0]|simp (disch := first|exact oa|fail) only [AX, i13, i14, i3, iO, i15, i5, ig, rvC, N0]|refine wki ?_|refine wqn ?_|refine vf_of (by first|exact a) ?_)
   exact ⟨⟨1, rfl, by omega, .inr ⟨by omega, rfl, by first | (rw [<- hsn]; rfl) | rw [<- hsn]⟩⟩, by omega⟩
  ·unfold rvC at hsn
   repeat (first|simp only [go_sem, i13, i14, i3, iO, i15, i5, iP, hat, hlen, rvC, N0, hsn, hrl]|simp (disch := first|exact oa|fail) only [AX, i13, i14, i3, iO, i15, i5, iP, hat, hlen, rvC, N0, hsn, hrl]|refine wki ?_|refine wqn ?_|refine vf_of (by first|exact a) ?_)
   exact ⟨⟨i + 1, rfl, by omega, .inr ⟨by omega, rfl, by first | (rw [<- hsn]; rfl) | rw [<- hsn]⟩⟩, by omega⟩
theorem stat_products {l : List Rat} {L : Nat} (hz : ∀ x ∈ l, szR x L) (hL : 1 <= L) (hL2 : L <= 1000000) (hl : l.length <= 12) :
  Go.Ev.Fn CX 230 [.sl l.length (rvsC l), .sl l.length (rvsC l)] (rv (sumR (l.map fun x => x * x))) := by
 have r0 := rat_Int 0 (by omega)
 have hlen := rvsC_len l
 have hz2 := sz_map (f := fun x => x * x) hz (fun x hx => szR_mul hx hx hL)
 generalize hcs : rvsC l = cs at *
 refine fni Tryz.f230 ?_; unfold Tryz.f230; simp only [Option.get!_some]
 repeat (first|simp only [go_sem]|simp (disch := first|exact oa|fail) only [AX]|refine wki ?_|refine wqn ?_|refine vpd 5 [] ?_|refine vf_of (by first|exact r0) ?_)
 refine vp_loop_inv (fun s => s.tmp 9 = .sv (.sl l.length cs) /\ s.tmp 1 = .sv (.sl l.length cs) /\ s.tmp 10 = .sv (.int .i64 (l.length : Int)) /\ s.tmp 4 = .ptr 4 0 0 /\ s.obj 4 0 = some [.bool false, .sl 0 [], .sl 0 []] /\ s.tmp 5 = .ptr 5 0 0 /\
   ∃ i : Nat, s.tmp 11 = .sv (.int .i64 (i : Int)) /\ i <= l.length /\ s.obj 5 0 = some (rvC (sumR ((l.map fun x => x * x).take i))))
  (fun s => match s.tmp 11 with | .sv (.int _ i) => l.length - i.toNat | _ => 0) ⟨rfl, rfl, rfl, rfl, rfl, rfl, 0, rfl, by omega, rfl⟩ ?_
 rintro s2 ⟨i9, i1, i10, i4, iO, i5, i, i11, hi, iP⟩
 by_cases hend : i = l.length
 ·subst hend
  rw [List.take_of_length_le (by rw [List.length_map]; omega)] at iP
  repeat (first|simp only [go_sem, i9, i1, i10, i4, iO, i5, i11, iP, rvC]|simp (disch := first|exact oa|fail) only [AX, i9, i1, i10, i4, iO, i5, i11, iP, rvC]|refine wki ?_|refine wqn ?_|refine vpd 5 [] ?_)
 ·obtain ⟨rest, hat⟩ := rvsC_at (l := l) (i := i) (by omega)
  rw [hcs] at hat
  have hm := hz _ (getD_mem (l := l) (i := i) (by omega))
  have m1 := rat_Mul (RatA_rv hm) (RatA_rv hm) hL hL (by omega)
  have hS := sumR_take (l.map fun x => x * x) (i := i) (by rw [List.length_map]; omega)
  rw [getD_map l _ (by omega)] at hS
  have a := rat_Add (RatA_rv (sz_take12 (by omega) hz2 (by rw [List.length_map]; omega) i)) (RatA_rv (szR_mul hm hm hL)) (by omega) (by omega) (by omega)
  rw [<- hS] at a
  generalize l.getD i 0 = x at *
  clear hz hz2 hm hS
  repeat (first|simp only [go_sem, i9, i1, i10, i4, iO, i5, i11, iP, rvC, hat, hlen, List.cons_append, List.nil_append]|simp (disch := first|exact oa|fail) only [AX, i9, i1, i10, i4, iO, i5, i11, iP, rvC, hat, hlen, List.cons_append, List.nil_append]|refine wki ?_|refine wqn ?_|refine vpd 5 [] ?_|refine vf_of (by first|exact m1|exact a) ?_)
  exact ⟨⟨i + 1, rfl, by omega, rfl⟩, by omega⟩
theorem stat_Covariance {cs : List SV} {l : List Rat} {L : Nat} (h : RowC cs l L) (hL : 1 <= L) (hL2 : L <= 10000) (hl : l.length <= 12) :
  Go.Ev.Fn CX 160 [.sl l.length cs, .sl l.length cs] (if l.length < 2 then numE 0 5 else numE (varR l) 0) := by
 have r0 := rat_Int 0 (by omega)
 by_cases h0 : l.length < 2
 ·rw [if_pos h0]
  refine fni Tryz.f160 ?_; unfold Tryz.f160; simp only [Option.get!_some]
  repeat (first|simp only [go_sem]|simp (disch := first|exact oa|fail) only [AX]|refine wki ?_|refine wqn ?_|refine vf_of (by first|exact r0) ?_)
  rfl
 ·rw [if_neg h0]
  have s1 := stat_off h hL (by omega) hl (by omega)
  have hz := row_sz hL h
  have zo := sz_off hL hz hl
  have p1 := stat_products zo (by omega) (by omega) (by unfold offR; rw [List.length_map]; exact hl)
  rw [show (offR l).length = l.length by unfold offR; rw [List.length_map], show sumR ((offR l).map fun x => x * x) = sqR l from rfl] at p1
  have b1 := stat_by (n := (l.length : Int) - 1) (RatA_rv (sz_sq hL hz hl)) (by omega) (by omega) (by omega)
  rw [show sqR l / (((l.length : Int) - 1 : Int) : Rat) = varR l from rfl, show (l.length : Int) - 1 = ((l.length - 1 : Nat) : Int) by omega] at b1
  clear h zo hz
  refine fni Tryz.f160 ?_; unfold Tryz.f160; simp only [Option.get!_some]
  repeat (first|simp only [go_sem]|simp (disch := first|exact oa|fail) only [AX]|refine wki ?_|refine wqn ?_|refine vf_of (by first|exact s1|exact p1|exact b1) ?_)
theorem stat_Variance {cs : List SV} {l : List Rat} {L : Nat} (h : RowC cs l L) (hL : 1 <= L) (hL2 : L <= 10000) (hl : l.length <= 12) :
  Go.Ev.Fn CX 158 [.sl l.length cs] (if l.length < 2 then numE 0 5 else numE (varR l) 0) := by
 have c1 := stat_Covariance h hL hL2 hl
 by_cases h0 : l.length < 2
 ·rw [if_pos h0] at c1 ⊢
  refine fni Tryz.f158 ?_; unfold Tryz.f158; simp only [Option.get!_some]
  repeat (first|simp only [go_sem]|simp (disch := first|exact oa|fail) only [AX]|refine wki ?_|refine wqn ?_|refine vf_of (by first|exact c1) ?_)
 ·rw [if_neg h0] at c1 ⊢
  refine fni Tryz.f158 ?_; unfold Tryz.f158; simp only [Option.get!_some]
  repeat (first|simp only [go_sem]|simp (disch := first|exact oa|fail) only [AX]|refine wki ?_|refine wqn ?_|refine vf_of (by first|exact c1) ?_)
end Go.Proofs.YtlojijllmadnoaaGreatDoor
namespace Go.Proofs.YtlojijllmadnoaaGreatDoor
open Go.Ev
def lineA : List UInt8 := [108, 101, 116, 32, 97, 32, 61, 32, 49, 32, 50, 32, 52]
def lineB : List UInt8 := [118, 97, 114, 32, 97]
def wordsA : List (List UInt8) := [[108, 101, 116], [97], [61], [49], [50], [52]]
def wordsB : List (List UInt8) := [[118, 97, 114], [97]]
def strC (l : List (List UInt8)) : List SV := l.map fun w => .str (bs w)
theorem words_A : Go.Ev.Fn CX 37 [.str (bs lineA)] (.sl 6 (strC wordsA)) := tool_words (bs lineA) (by decide)
theorem words_B : Go.Ev.Fn CX 37 [.str (bs lineB)] (.sl 2 (strC wordsB)) := tool_words (bs lineB) (by decide)
theorem words_C : Go.Ev.Fn CX 37 [.str (bs [])] (.sl 0 []) := tool_words (bs []) (by decide)
theorem cut_1 : Go.Ev.Fn CX 93 [.str (bs lineA), .str (bs [108, 101, 116])] (.tup [.str (bs []), .str (bs [32, 97, 32, 61, 32, 49, 32, 50, 32, 52]), .bool true]) := x_cut (bs lineA) (bs [108, 101, 116]) (by decide) (by decide)
theorem cut_2 : Go.Ev.Fn CX 93 [.str (bs [32, 97, 32, 61, 32, 49, 32, 50, 32, 52]), .str (bs [97])] (.tup [.str (bs [32]), .str (bs [32, 61, 32, 49, 32, 50, 32, 52]), .bool true]) := str_Cut CX_str [32, 97, 32, 61, 32, 49, 32, 50, 32, 52] 97 (by decide)
theorem cut_3 : Go.Ev.Fn CX 93 [.str (bs [32, 61, 32, 49, 32, 50, 32, 52]), .str (bs [61])] (.tup [.str (bs [32]), .str (bs [32, 49, 32, 50, 32, 52]), .bool true]) := str_Cut CX_str [32, 61, 32, 49, 32, 50, 32, 52] 61 (by decide)
theorem parse_A : parseP [32, 49, 32, 50, 32, 52] = (0, [1, 2, 4]) := by kernel_rfl
def rowA : List SV := rvsC [1, 2, 4]
theorem rowA_row : RowC rowA [1, 2, 4] 500 := by
 have hz : ∀ q ∈ (parseP [32, 49, 32, 50, 32, 52]).2, szR q 500 := parse_sz
 rw [parse_A] at hz
 exact rvsC_row _ hz
def plQ : TV -> Bool
 | .sv _ => true
 | .nil => true
 | .undef => true
 | .skip => true
 | .ptr d _ _ => decide (H0 <= d)
 | .pst d _ => decide (H0 <= d)
 | _ => false
theorem plQ_V {v : TV} (h : plQ v = true) : plV v = true := by
 cases v with
 | ptr d g o => exact pl_ob (of_decide_eq_true h)
 | pst d g =>
  show (!TP d) = true
  rw [tp_ob (of_decide_eq_true h)]
  rfl
 | ref => cases h
 | rfc => cases h
 | _ => rfl
theorem frz_plQ {v : TV} {n g : Nat} {cs : List SV} (h : plQ v = true) (hn : n < H0) : v.frz n g cs = v := by
 cases v with
 | ptr d g' o => exact if_neg fun e => by have := of_decide_eq_true h; omega
 | pst d g' => exact if_neg fun e => by have := of_decide_eq_true h; omega
 | ref => cases h
 | rfc => cases h
 | _ => rfl
structure Kq (d : Nat) (st s : St) : Prop where
 up : ∀ u, plQ (st.up u) = true -> s.up u = st.up u
 obj : ∀ n g, TP n = false -> g < st.gen n -> s.obj n g = st.obj n g
 gen : ∀ n, st.gen n <= s.gen n
 hob : ∀ d' g' ts, d' ≠ d -> g' < st.gen d' -> st.hob d' g' = some ts -> (∀ t ∈ ts, plQ t = true) -> s.hob d' g' = some ts
structure KeepQ (d : Nat) (st st' : St) : Prop extends Kq d st st' where
 tmp : ∀ t, plQ (st.tmp t) = true -> st'.tmp t = st.tmp t
section
variable {d : Nat} {st s a b c : St}
theorem Kq.of (h : Kp TP d st s) : Kq d st s := ⟨fun u hu => h.up u (plQ_V hu), h.obj, h.gen, fun d' g' ts hd _ h1 h2 => h.hob d' g' ts hd h1 fun t ht => plQ_V (h2 t ht)⟩
theorem Kq.self : Kq d st st := Kq.of Kp.refl
theorem Kq.trans (h : Kq d a b) (k : Kq d b c) : Kq d a c :=
 ⟨fun u hu => (k.up u (by rw [h.up u hu]; exact hu)).trans (h.up u hu), fun n g hn hg => (k.obj n g hn (Nat.lt_of_lt_of_le hg (h.gen n))).trans (h.obj n g hn hg), fun n => Nat.le_trans (h.gen n) (k.gen n),
  fun d' g' ts hd hg ho hp => k.hob d' g' ts hd (Nat.lt_of_lt_of_le hg (h.gen d')) (h.hob d' g' ts hd hg ho hp) hp⟩
theorem Kq.put {t : Nat} {v : TV} (h : Kq d st s) : Kq d st (s.put t v) := ⟨h.up, h.obj, h.gen, h.hob⟩
theorem Kq.new {t : Nat} {cs : List SV} {v : TV} (h : Kq d st s) : Kq d st (s.new t cs v) :=
 h.trans (Kq.of Kp.refl.new)
theorem Kq.newset {t : Nat} {cs cs' : List SV} {v : TV} (h : Kq d st s) : Kq d st ((s.new t cs v).set t (s.gen t) cs') :=
 h.trans (Kq.of Kp.refl.newset)
theorem Kq.newH {t : Nat} {ts : List TV} (h : Kq d st s) : Kq d st (s.newH t ts) := by
 refine h.trans ⟨fun _ _ => rfl, fun n g hn hg => if_neg fun e => ?_, fun n => ?_, fun d' g' ts' hd hg ho hp => (if_neg fun e => ?_).trans ho⟩
 ·rw [e.1] at hg
  omega
 ·rw [gen_newH]
  split
  ·rename_i e
   rw [e]
   omega
  ·exact Nat.le_refl _
 ·rw [e.1] at hg
  omega
theorem Kq.frzd {n g : Nat} {cs : List SV} (hn : n < H0) (hg : st.gen n <= g) (h : Kq d st s) : Kq d st (s.frzd n g cs) :=
 ⟨fun u hu => (congrArg (TV.frz n g cs) (h.up u hu)).trans (frz_plQ hu hn), fun n' g' hn' hg' => (if_neg fun e => by rw [e.1, e.2] at hg'; omega).trans (h.obj n' g' hn' hg'), h.gen, fun d' g' ts hd hg' ho hp => by
  show Option.map (fun ts => ts.map fun t => t.frz n g cs) (s.hob d' g') = some ts
  rw [h.hob d' g' ts hd hg' ho hp]
  exact congrArg some ((List.map_congr_left fun t ht => frz_plQ (hp t ht) hn).trans (List.map_id' ts))⟩
theorem KeepQ.kq {st' : St} (h : KeepQ d st st') : Kq d st st' := h.toKq
theorem keepq_of {vs : List TV} (h : Kq d (st.enter vs) s) : KeepQ d st s.leave :=
 {up := fun t ht => by rw [up_leave, h.up (2 * t + 1) (by rw [up_odd]; exact ht), up_odd]
  tmp := fun t ht => by rw [tmp_leave, h.up (2 * t) (by rw [up_even]; exact ht), up_even]
  obj := h.obj
  gen := h.gen
  hob := h.hob }
end
theorem SessR.newH {st : St} {d g t : Nat} {es : List Ent} {D : Int} {ts : List TV} (h : SessR st d g es D) (hd : d ≠ H0 + t) : SessR (st.newH t ts) d g es D := by
 have hH : H0 = 2000000 := rfl
 have h25 : ¬ (25 = H0 + t) := by omega
 refine h.of (by rw [hob_newH, if_neg fun e => hd e.1]) (fun g1 => by rw [obj_newH, if_neg fun e => h25 e.1]) (by rw [gen_newH, if_neg h25]; exact Nat.le_refl _)
theorem SessR.newT {st : St} {d g t : Nat} {es : List Ent} {D : Int} {cs : List SV} {v : TV} (h : SessR st d g es D) (ht : t ≠ 25) : SessR (st.new t cs v) d g es D :=
 h.of rfl (fun g1 => by rw [obj_new, if_neg fun e => ht e.1.symm]) (by rw [gen_new, if_neg fun e => ht e.symm]; exact Nat.le_refl _)
theorem SessR.setT {st : St} {d g n g2 : Nat} {es : List Ent} {D : Int} {cs : List SV} (h : SessR st d g es D) (hn : n ≠ 25) : SessR (st.set n g2 cs) d g es D :=
 h.of rfl (fun g1 => by rw [obj_set, if_neg fun e => hn e.1.symm]) (Nat.le_refl _)
theorem SessR.frzT {st : St} {d g n g2 : Nat} {es : List Ent} {D : Int} {cs : List SV} (h : SessR st d g es D) (hn : n ≠ 25) : SessR (st.frzd n g2 cs) d g es D := by
 obtain ⟨h1, h2⟩ := h
 refine ⟨h1, ?_⟩
 rcases h2 with ⟨e, ho⟩ | ⟨g1, hg1, ho, hobj⟩
 ·refine .inl ⟨e, ?_⟩
  show Option.map (fun ts => ts.map fun t => t.frz n g2 cs) (st.hob d g) = _
  rw [ho]
  rfl
 ·refine .inr ⟨g1, hg1, ?_, (if_neg fun e => hn e.1.symm).trans hobj⟩
  show Option.map (fun ts => ts.map fun t => t.frz n g2 cs) (st.hob d g) = _
  rw [ho]
  show some [TV.frz n g2 cs (.ref 25 g1 2 0 es.length), _] = _
  rw [show TV.frz n g2 cs (.ref 25 g1 2 0 es.length) = .ref 25 g1 2 0 es.length from if_neg fun e => hn e.1.symm]
  rfl
section
variable {ops : Array Oper} {l : List Oper} {dst : Option Nat} {st : St} {Q : St -> Prop} {d g : Nat}
abbrev entA : List Ent := [([97], 3, rowA)]
theorem desk_let (hd : H0 <= d) (hd3 : d ≠ 2000003) (h : SessR st d g [] 6)
  (k : ∀ st', KeepQ d st st' -> SessR st' d g entA 6 -> WO CX false ops l (st'.putO dst (.sv (.str (bs [111, 107])))) Q) :
  WN CX ops l dst st Q 68 [.pst d g, .sv (.str (bs lineA)), .sv (.sl 6 (strC wordsA))] := by
 have hd' : 2000000 <= d := hd
 have c0 : ((bs [61]).toList == (ByteArray.mk #[61]).toList) = true := word_is.trans (by decide)
 have c1 := cut_1
 have c2 := cut_2
 have c3 := cut_3
 have tl := tool_told (bs [111, 107])
 refine wni Tryz.f68 ?_; unfold Tryz.f68; simp only [Option.get!_some]
 repeat (first|simp only [go_sem, hd', strC, wordsA, c0, Bool.not_true]|simp (disch := first|exact oa|fail) only [AX, hd', strC, wordsA, c0, Bool.not_true]|refine wki ?_|refine wqn ?_|refine vpl 8 [] [([0, 1, 2, 3, 4, 5], some (6, [])), ([], some (7, [])), ([8], none)] ?_)
 rw [vp_loop]
 repeat (first|simp only [go_sem, Int.reduceAdd, Int.zero_add, List.drop_succ_cons, List.drop_zero, List.head?_cons, Option.map_some, List.drop_nil]|simp (disch := first|exact oa|fail) only [AX, Int.reduceAdd, Int.zero_add, List.drop_succ_cons, List.drop_zero, List.head?_cons, Option.map_some, List.drop_nil]|refine wki ?_|refine wqn ?_|refine vpl 8 [] [([0, 1, 2, 3, 4, 5], some (6, [])), ([], some (7, [])), ([8], none)] ?_|refine vf_of (by first|exact c1) ?_)
 rw [vp_loop]
 repeat (first|simp only [go_sem, Int.reduceAdd, Int.zero_add, List.drop_succ_cons, List.drop_zero, List.head?_cons, Option.map_some, List.drop_nil]|simp (disch := first|exact oa|fail) only [AX, Int.reduceAdd, Int.zero_add, List.drop_succ_cons, List.drop_zero, List.head?_cons, Option.map_some, List.drop_nil]|refine wki ?_|refine wqn ?_|refine vpl 8 [] [([0, 1, 2, 3, 4, 5], some (6, [])), ([], some (7, [])), ([8], none)] ?_|refine vf_of (by first|exact c2) ?_)
 rw [vp_loop]
 repeat (first|simp only [go_sem, Int.reduceAdd, Int.zero_add, List.drop_succ_cons, List.drop_zero, List.head?_cons, Option.map_some, List.drop_nil]|simp (disch := first|exact oa|fail) only [AX, Int.reduceAdd, Int.zero_add, List.drop_succ_cons, List.drop_zero, List.head?_cons, Option.map_some, List.drop_nil]|refine wki ?_|refine wqn ?_|refine vpl 8 [] [([0, 1, 2, 3, 4, 5], some (6, [])), ([], some (7, [])), ([8], none)] ?_|refine vf_of (by first|exact c3) ?_)
 rw [vp_loop]
 repeat (first|simp only [go_sem, Int.reduceAdd, Int.zero_add, List.drop_succ_cons, List.drop_zero, List.head?_cons, Option.map_some, List.drop_nil]|simp (disch := first|exact oa|fail) only [AX, Int.reduceAdd, Int.zero_add, List.drop_succ_cons, List.drop_zero, List.head?_cons, Option.map_some, List.drop_nil]|refine wki ?_|refine wqn ?_|refine vpl 8 [] [([0, 1, 2, 3, 4, 5], some (6, [])), ([], some (7, [])), ([8], none)] ?_)
 refine sess_Let_end (t := [97]) (es := []) (x := [32, 49, 32, 50, 32, 52]) (qs := [1, 2, 4]) (D := 6) (by decide) (by kernel_rfl) ⟨Nat.le_refl 0, fun k h => absurd h (Nat.not_lt_zero k), fun k _ h => absurd h (Nat.not_lt_zero k)⟩ (by decide) (by decide) parse_A (by decide) (((h.of (s := st.enter [.pst d g, .sv (.str (bs lineA)), .sv (.sl 6 (strC wordsA))]) rfl (fun _ => rfl) (Nat.le_refl _)).newH (t := 3) (ts := [.ptr d g 0]) hd3).of rfl (fun _ => rfl) (Nat.le_refl _)) ?_
 intro s1 hk hs1
 repeat (first|simp only [go_sem]|simp (disch := first|exact oa|fail) only [AX]|refine wki ?_|refine wqn ?_|refine vpl 8 [] [([0, 1, 2, 3, 4, 5], some (6, [])), ([], some (7, [])), ([8], none)] ?_|refine vf_of (by first|exact tl) ?_)
 exact k _ (keepq_of (by repeat (first|exact Kq.self|refine Kq.put ?_|refine Kq.trans ?_ (Kq.of hk.kp)|refine Kq.newH ?_))) (hs1.of rfl (fun _ => rfl) (Nat.le_refl _))
theorem pos_A : PosAt entA [97] 0 := ⟨by decide, fun k h => absurd h (Nat.not_lt_zero k), fun k _ h => by
 have : k = 0 := by simpa using h
 subst this
 decide⟩
theorem desk_rows (hd : H0 <= d) (hd2 : d ≠ 2000002) (h : SessR st d g entA 6)
  (k : ∀ st', KeepQ d st st' -> SessR st' d g entA 6 -> WO CX false ops l (st'.putO dst (.sv (.tup [.sl 1 [.sl 3 rowA], .int .i64 0]))) Q) :
  WN CX ops l dst st Q 113 [.pst d g, .sv (.sl 1 [.str (bs [97])])] := by
 have hd' : 2000000 <= d := hd
 have hc := sess_copied rowA_row (by omega) (by omega) (by decide)
 refine wni Tryz.f113 ?_; unfold Tryz.f113; simp only [Option.get!_some]
 repeat (first|simp only [go_sem, hd']|simp (disch := first|exact oa|fail) only [AX, hd']|refine wki ?_|refine wqn ?_)
 rw [vp_loop]
 repeat (first|simp only [go_sem, hd', Int.reduceAdd, Int.zero_add, List.drop_succ_cons, List.drop_zero, List.head?_cons, Option.map_some, List.drop_nil]|simp (disch := first|exact oa|fail) only [AX, hd', Int.reduceAdd, Int.zero_add, List.drop_succ_cons, List.drop_zero, List.head?_cons, Option.map_some, List.drop_nil]|refine wki ?_|refine wqn ?_)
 refine sess_Get_atS (t := [97]) (es := entA) (p := 0) (rs := rowA) (D := 6) pos_A (by decide) (by kernel_rfl) hc (((h.of (s := st.enter [.pst d g, .sv (.sl 1 [.str (bs [97])])]) rfl (fun _ => rfl) (Nat.le_refl _)).newH (t := 2) (ts := [.ptr d g 0]) hd2).of rfl (fun _ => rfl) (Nat.le_refl _)) ?_
 intro s1 hk
 have k6 : s1.tmp 6 = .nil := (hk.tmp 6).trans rfl
 have k11 : s1.tmp 11 = .sv (.sl 1 [.str (bs [97])]) := (hk.tmp 11).trans rfl
 have k12 : s1.tmp 12 = .sv (.int .i64 1) := (hk.tmp 12).trans rfl
 have k13 : s1.tmp 13 = .sv (.int .i64 0) := (hk.tmp 13).trans rfl
 have e3 : (entA.getD 0 default).2.1 = 3 := rfl
 repeat (first|simp only [go_sem, k6, k11, k12, k13, e3, Int.reduceAdd, Int.zero_add, List.drop_succ_cons, List.drop_zero, List.head?_cons, Option.map_some, List.drop_nil]|simp (disch := first|exact oa|fail) only [AX, k6, k11, k12, k13, e3, Int.reduceAdd, Int.zero_add, List.drop_succ_cons, List.drop_zero, List.head?_cons, Option.map_some, List.drop_nil]|refine wki ?_|refine wqn ?_)
 have n30 : decide (30 < N0) = true := by decide
 have kq1 : Kq d (st.enter [.pst d g, .sv (.sl 1 [.str (bs [97])])]) s1 := by repeat (first|exact Kq.self|refine Kq.trans ?_ (Kq.of hk.keep.kp)|refine Kq.put ?_|refine Kq.newH ?_)
 have g30 : st.gen 30 <= s1.gen 30 := kq1.gen 30
 have hs1 : SessR s1 d g entA 6 := ((h.of (s := st.enter [.pst d g, .sv (.sl 1 [.str (bs [97])])]) rfl (fun _ => rfl) (Nat.le_refl _)).newH (t := 2) (ts := [.ptr d g 0]) hd2).of (by rw [hk.hob]; rfl) (fun g1 => (hk.obj 25 g1).trans rfl) (by rw [hk.gen]; exact Nat.le_refl _)
 rw [vp_loop]
 repeat (first|simp only [go_sem, k6, k11, k12, k13, e3, n30, Int.reduceAdd, Int.zero_add, List.drop_succ_cons, List.drop_zero, List.head?_cons, Option.map_some, List.drop_nil]|simp (disch := first|exact oa|fail) only [AX, k6, k11, k12, k13, e3, n30, Int.reduceAdd, Int.zero_add, List.drop_succ_cons, List.drop_zero, List.head?_cons, Option.map_some, List.drop_nil]|refine wki ?_|refine wqn ?_)
 have hs2 := ((hs1.newT (t := 29) (cs := [.sl 3 rowA]) (v := .ref 29 (s1.gen 29) 1 0 1) (by decide)).newT (t := 30) (cs := [.sl 3 rowA]) (v := .ref 30 (s1.gen 30) 1 0 1) (by decide)).frzT (n := 30) (g2 := s1.gen 30) (cs := [.sl 3 rowA]) (by decide)
 exact k _ (keepq_of (by repeat (first|exact kq1|exact g30|refine Kq.put ?_|refine Kq.new ?_|refine Kq.frzd (by decide) ?_ ?_))) (hs2.of rfl (fun _ => rfl) (Nat.le_refl _))
theorem desk_row (hd : H0 <= d) (hd2 : d ≠ 2000002) (h : SessR st d g entA 6)
  (k : ∀ st', KeepQ d st st' -> SessR st' d g entA 6 -> WO CX false ops l (st'.putO dst (.sv (.str (bs [55, 47, 51])))) Q) :
  WN CX ops l dst st Q 77 [.pst d g, .sv (.sl 2 (strC wordsB))] := by
 have hd' : 2000000 <= d := hd
 have nm := tool_names
 have c0 : ((bs [118, 97, 114]).toList == (ByteArray.mk #[115, 104, 111, 119]).toList) = false := word_is.trans (by decide)
 have c1 : ((bs [118, 97, 114]).toList == (ByteArray.mk #[100, 114, 111, 112]).toList) = false := word_is.trans (by decide)
 have e73 : rv (7 / 3 : Rat) = ratV false [7] [3] := by kernel_rfl
 have v1 : Go.Ev.Fn CX 158 [.sl 3 rowA] (.tup [ratV false [7] [3], .int .i64 0]) := by
  have := stat_Variance rowA_row (by omega) (by omega) (by decide)
  rw [if_neg (by decide), show varR [1, 2, 4] = (7 / 3 : Rat) by kernel_rfl, show numE (7 / 3 : Rat) 0 = .tup [ratV false [7] [3], .int .i64 0] by kernel_rfl] at this
  exact this
 have ab := tool_about v1
 have pr := dec_Print (v := rv (7 / 3 : Rat)) (q := 7 / 3) (L := 1) (RatA_rv ⟨by decide +kernel, by decide +kernel⟩) (by omega) (by omega)
 rw [show ratT (7 / 3) = [55, 47, 51] by kernel_rfl, e73] at pr
 have tl := tool_told (bs [55, 47, 51])
 refine wni Tryz.f77 ?_; unfold Tryz.f77; simp only [Option.get!_some]
 repeat (first|simp only [go_sem, hd', strC, wordsB, Int.reduceAdd, Int.zero_add, List.drop_succ_cons, List.drop_zero, List.head?_cons, Option.map_some, List.drop_nil, List.map_cons, List.map_nil]|simp (disch := first|exact oa|fail) only [AX, hd', strC, wordsB, Int.reduceAdd, Int.zero_add, List.drop_succ_cons, List.drop_zero, List.head?_cons, Option.map_some, List.drop_nil, List.map_cons, List.map_nil]|refine wki ?_|refine wqn ?_|refine vpl 3 [1] [([0, 1, 2], some (3, [])), ([4, 5, 6, 7, 8], none)] ?_|refine vpd 10 [] ?_|refine vf_of (by first|exact nm) ?_)
 refine desk_rows hd hd2 (((h.of (s := st.enter [.pst d g, .sv (.sl 2 (strC wordsB))]) rfl (fun _ => rfl) (Nat.le_refl _)).newH (t := 2) (ts := [.ptr d g 0]) hd2).of rfl (fun _ => rfl) (Nat.le_refl _)) ?_
 intro s1 hk hs1
 have k1 : s1.tmp 1 = .sv (.sl 2 [.str (bs [118, 97, 114]), .str (bs [97])]) := hk.tmp 1 rfl
 repeat (first|simp only [go_sem, k1, c0, c1, Int.reduceAdd, Int.zero_add, List.drop_succ_cons, List.drop_zero, List.head?_cons, Option.map_some, List.drop_nil, List.map_cons, List.map_nil]|simp (disch := first|exact oa|fail) only [AX, k1, c0, c1, Int.reduceAdd, Int.zero_add, List.drop_succ_cons, List.drop_zero, List.head?_cons, Option.map_some, List.drop_nil, List.map_cons, List.map_nil]|refine wki ?_|refine wqn ?_|refine vpl 3 [1] [([0, 1, 2], some (3, [])), ([4, 5, 6, 7, 8], none)] ?_|refine vpd 10 [] ?_|refine vf_of (by first|exact ab|exact pr|exact tl) ?_)
 have hs2 := (hs1.newT (t := 7) (cs := [.bool false, .sl 0 [], .sl 0 []]) (v := .ptr 7 (s1.gen 7) 0) (by decide)).setT (n := 7) (g2 := s1.gen 7) (cs := [.bool false, natV [7], natV [3]]) (by decide)
 exact k _ (keepq_of (by repeat (first|exact Kq.self|refine Kq.put ?_|refine Kq.newset ?_|refine Kq.trans ?_ hk.kq|refine Kq.newH ?_))) (hs2.of rfl (fun _ => rfl) (Nat.le_refl _))
theorem line_is {a : List UInt8} {b : Array UInt8} {r : Bool} (h : (a == b.toList) = r) : ((bs a).toList == (ByteArray.mk b).toList) = r := word_is.trans h
theorem desk_lineA (hd : H0 <= d) (hd3 : d ≠ 2000003) (h : SessR st d g [] 6)
  (k : ∀ st', KeepQ d st st' -> SessR st' d g entA 6 -> WO CX false ops l (st'.putO dst (.sv (.str (bs [111, 107])))) Q) :
  WN CX ops l dst st Q 40 [.pst d g, .sv (.str (bs lineA)), .sv (.sl 6 (strC wordsA))] := by
 have hd' : 2000000 <= d := hd
 have c0 : ((bs [108, 101, 116]).toList == (ByteArray.mk #[108, 101, 116]).toList) = true := line_is (by decide)
 refine wni Tryz.f40 ?_; unfold Tryz.f40; simp only [Option.get!_some]
 repeat (first|simp only [go_sem, hd', strC, wordsA, c0, Int.reduceAdd, Int.zero_add, List.drop_succ_cons, List.drop_zero, List.head?_cons, Option.map_some, List.drop_nil, List.map_cons, List.map_nil]|simp (disch := first|exact oa|fail) only [AX, hd', strC, wordsA, c0, Int.reduceAdd, Int.zero_add, List.drop_succ_cons, List.drop_zero, List.head?_cons, Option.map_some, List.drop_nil, List.map_cons, List.map_nil]|refine wki ?_|refine wqn ?_)
 refine desk_let hd hd3 (((h.of (s := st.enter [.pst d g, .sv (.str (bs lineA)), .sv (.sl 6 (strC wordsA))]) rfl (fun _ => rfl) (Nat.le_refl _)).newH (t := 3) (ts := [.ptr d g 0]) hd3).of rfl (fun _ => rfl) (Nat.le_refl _)) ?_
 intro s1 hk hs1
 repeat (first|simp only [go_sem]|simp (disch := first|exact oa|fail) only [AX]|refine wki ?_|refine wqn ?_)
 exact k _ (keepq_of (by repeat (first|exact Kq.self|refine Kq.put ?_|refine Kq.trans ?_ hk.kq|refine Kq.newH ?_))) (hs1.of rfl (fun _ => rfl) (Nat.le_refl _))
theorem desk_lineB (hd : H0 <= d) (hd2 : d ≠ 2000002) (hd3 : d ≠ 2000003) (h : SessR st d g entA 6)
  (k : ∀ st', KeepQ d st st' -> SessR st' d g entA 6 -> WO CX false ops l (st'.putO dst (.sv (.str (bs [55, 47, 51])))) Q) :
  WN CX ops l dst st Q 40 [.pst d g, .sv (.str (bs lineB)), .sv (.sl 2 (strC wordsB))] := by
 have hd' : 2000000 <= d := hd
 have nm := tool_names
 have c0 : ((bs [118, 97, 114]).toList == (ByteArray.mk #[108, 101, 116]).toList) = false := line_is (by decide)
 have c1 : ((bs [118, 97, 114]).toList == (ByteArray.mk #[110, 97, 109, 101, 115]).toList) = false := line_is (by decide)
 have c2 : ((bs [118, 97, 114]).toList == (ByteArray.mk #[100, 105, 103, 105, 116, 115]).toList) = false := line_is (by decide)
 have c3 : ((bs [118, 97, 114]).toList == (ByteArray.mk #[99, 100, 102]).toList) = false := line_is (by decide)
 have c4 : ((bs [118, 97, 114]).toList == (ByteArray.mk #[97, 98, 111, 118, 101]).toList) = false := line_is (by decide)
 have c5 : ((bs [118, 97, 114]).toList == (ByteArray.mk #[113, 117, 97, 110, 116, 105, 108, 101]).toList) = false := line_is (by decide)
 have c6 : ((bs [118, 97, 114]).toList == (ByteArray.mk #[109, 111, 109, 101, 110, 116, 115]).toList) = false := line_is (by decide)
 have c7 : ((bs [118, 97, 114]).toList == (ByteArray.mk #[98, 105, 110, 111, 109]).toList) = false := line_is (by decide)
 have c8 : ((bs [118, 97, 114]).toList == (ByteArray.mk #[108, 101, 97, 115, 116]).toList) = false := line_is (by decide)
 have c9 : ((bs [118, 97, 114]).toList == (ByteArray.mk #[100, 101, 99, 105, 100, 101]).toList) = false := line_is (by decide)
 refine wni Tryz.f40 ?_; unfold Tryz.f40; simp only [Option.get!_some]
 repeat (first|simp only [go_sem, hd', strC, wordsB, c0, c1, c2, c3, c4, c5, c6, c7, c8, c9, Int.reduceAdd, Int.zero_add, List.drop_succ_cons, List.drop_zero, List.head?_cons, Option.map_some, List.drop_nil, List.map_cons, List.map_nil]|simp (disch := first|exact oa|fail) only [AX, hd', strC, wordsB, c0, c1, c2, c3, c4, c5, c6, c7, c8, c9, Int.reduceAdd, Int.zero_add, List.drop_succ_cons, List.drop_zero, List.head?_cons, Option.map_some, List.drop_nil, List.map_cons, List.map_nil]|refine wki ?_|refine wqn ?_|refine vf_of (by first|exact nm) ?_)
 refine desk_row hd hd2 (((h.of (s := st.enter [.pst d g, .sv (.str (bs lineB)), .sv (.sl 2 (strC wordsB))]) rfl (fun _ => rfl) (Nat.le_refl _)).newH (t := 3) (ts := [.ptr d g 0]) hd3).of rfl (fun _ => rfl) (Nat.le_refl _)) ?_
 intro s1 hk hs1
 repeat (first|simp only [go_sem]|simp (disch := first|exact oa|fail) only [AX]|refine wki ?_|refine wqn ?_)
 exact k _ (keepq_of (by repeat (first|exact Kq.self|refine Kq.put ?_|refine Kq.trans ?_ hk.kq|refine Kq.newH ?_))) (hs1.of rfl (fun _ => rfl) (Nat.le_refl _))
end
end Go.Proofs.YtlojijllmadnoaaGreatDoor
namespace Go.Proofs.YtlojijllmadnoaaGreatDoor
open Go.RowKit
structure Boxes (b : Nat) (s : ByteArray) (w : World) : Prop where
 s0 : w.heap[b]? = some (.cells #[.string s] 9 (0, 0))
 s1 : w.heap[b + 1]? = some (.cells #[.string ⟨#[10]⟩] 9 (0, 0))
 s2 : w.heap[b + 2]? = some (.cells #[.int .i64 0] 3 (0, 0))
theorem Boxes.lt {b : Nat} {s : ByteArray} {w : World} (h : Boxes b s w) : b + 2 < w.heap.size := (Array.getElem?_eq_some_iff.1 h.s2).1
theorem Boxes.same {b : Nat} {s : ByteArray} {w w' : World} (h : Boxes b s w) (hs : ∀ k, k < w.heap.size -> k = b \/ k = b + 1 \/ k = b + 2 -> w'.heap[k]? = w.heap[k]?) : Boxes b s w' := by
 have := h.lt
 exact ⟨(hs b (by omega) (by omega)).trans h.s0, (hs (b + 1) (by omega) (by omega)).trans h.s1, (hs (b + 2) (by omega) (by omega)).trans h.s2⟩
def seqV (b : Nat) : Value := .func (.func 88) #[] #[.pointer (some ⟨b + 1, 0, none⟩), .pointer (some ⟨b, 0, none⟩), .pointer (some ⟨b + 2, 0, none⟩)]
set_option maxRecDepth 100000 in
set_option maxHeartbeats 1000000 in
theorem split_seq (F : Fence) (n : Nat) (hF : F.fn 63) (hro : F.round = none) (s : ByteArray) (w : World) :
  CallsIn F n Tryz.prog 63 #[.string s, .string ⟨#[10]⟩, .int .i64 0] w fun e w' => e = .returned (seqV w.heap.size) /\ Boxes w.heap.size s w' /\ Below w.heap.size w w' /\ w'.heap.size = w.heap.size + 3 := by
 refine callsIn_of_wp Tryz.func63 rfl hF ?_ hro
 simp only [Tryz.ntmps63, List.size_toArray, List.length_cons, List.length_nil, Nat.reduceAdd, Nat.reduceSub, Array.replicate_succ, Array.replicate_zero, List.push_toArray, List.append_toArray, List.nil_append, List.cons_append]
 gi_wp2
 go_ret
 refine ⟨rfl, ⟨?_, ?_, ?_⟩, (((Below.refl _ w).alloc (Nat.le_refl _) _).alloc (by simp) _).alloc (by simp; omega) _, by simp⟩
 ·rw [Below.heap_alloc _ _ _ (by rw [World.size_alloc, World.size_alloc]; omega), Below.heap_alloc _ _ _ (by rw [World.size_alloc]; omega)]
  exact World.alloc_heap_new w _
 ·rw [Below.heap_alloc _ _ _ (by rw [World.size_alloc, World.size_alloc]; omega)]
  have := World.alloc_heap_new (w.alloc (.cells #[.string s] 9)) (.cells #[.string ⟨#[10]⟩] 9)
  rwa [World.size_alloc] at this
 ·have := World.alloc_heap_new ((w.alloc (.cells #[.string s] 9)).alloc (.cells #[.string ⟨#[10]⟩] 9)) (.cells #[.int .i64 0] 3)
  rwa [World.size_alloc, World.size_alloc] at this
set_option maxRecDepth 100000 in
set_option maxHeartbeats 1000000 in
theorem split_Seq (F : Fence) (n : Nat) (hF : F.fn 36) (hF2 : F.fn 63) (hd : F.depth = none) (hro : F.round = none) (s : ByteArray) (w : World) :
  CallsIn F n Tryz.prog 36 #[.string s, .string ⟨#[10]⟩] w fun e w' => e = .returned (seqV w.heap.size) /\ Boxes w.heap.size s w' /\ Below w.heap.size w w' /\ w'.heap.size = w.heap.size + 3 := by
 have hn : F.depth.isSome = true -> 1 <= n := fun h => by rw [hd] at h; cases h
 refine callsIn_of_wp Tryz.func36 rfl hF ?_ hro
 simp only [Tryz.ntmps36, List.size_toArray, List.length_cons, List.length_nil, Nat.reduceAdd, Nat.reduceSub, Array.replicate_succ, Array.replicate_zero, List.push_toArray, List.append_toArray, List.nil_append, List.cons_append]
 gi_wp2_with (gi_at_call 63; refine (split_seq F (n - 1) hF2 hro s w).mono ?_)
 rintro e w1 ⟨rfl, hb, hl, hz⟩
 gi_wp2
 go_ret
 exact ⟨rfl, hb, hl, hz⟩
def restK : Nat -> List UInt8
 | 0 => [108, 101, 116, 32, 97, 32, 61, 32, 49, 32, 50, 32, 52, 10, 118, 97, 114, 32, 97, 10]
 | 1 => [118, 97, 114, 32, 97, 10]
 | _ => []
def lineK : Nat -> List UInt8
 | 0 => [108, 101, 116, 32, 97, 32, 61, 32, 49, 32, 50, 32, 52]
 | 1 => [118, 97, 114, 32, 97]
 | _ => []
theorem Boxes.set {b : Nat} {s s' : ByteArray} {w : World} (h : Boxes b s w) : Boxes b s' (w.setCell ⟨b, 0, none⟩ (.string s')) := by
 refine ⟨?_, ?_, ?_⟩
 ·show (w.heap.modify b _)[b]? = _
  rw [Array.getElem?_modify, if_pos rfl, h.s0]
  rfl
 ·rw [Below.heap_setCell _ _ _ _ (by show b + 1 ≠ b; omega)]
  exact h.s1
 ·rw [Below.heap_setCell _ _ _ _ (by show b + 2 ≠ b; omega)]
  exact h.s2
theorem Boxes.cells {b : Nat} {s : ByteArray} {w : World} (h : Boxes b s w) : w.cell? ⟨b, 0, none⟩ = some (.string s) /\ w.frozen? ⟨b, 0, none⟩ = false /\ w.cell? ⟨b + 1, 0, none⟩ = some (.string ⟨#[10]⟩) /\ w.cell? ⟨b + 2, 0, none⟩ = some (.int .i64 0) :=
 ⟨by rw [Lib.cell_of_heap h.s0]; rfl, Lib.frozen_of_heap h.s0 0, by rw [Lib.cell_of_heap h.s1]; rfl, by rw [Lib.cell_of_heap h.s2]; rfl⟩
def textB (l : List UInt8) : ByteArray := ⟨l.toArray⟩
set_option maxRecDepth 100000 in
set_option maxHeartbeats 4000000 in
theorem seq_run (F : Fence) (n b l : Nat) (hF : F.fn 88) (hF2 : F.fn 90) (hn : 1 <= n) (hro : F.round = none) (J : Nat -> World -> Prop)
  (hIx : ∀ k w, J k w -> CallsIn F (n - 1) Tryz.prog 90 #[.string (textB (restK k)), .string ⟨#[10]⟩] w fun e w' => e = .returned (.int .i64 (Lib.indexByte (restK k) 10)) /\ Below w.heap.size w w')
  (hJ : ∀ k W W', J k W -> (∀ j, j < W.heap.size -> j ≠ b -> W'.heap[j]? = W.heap[j]?) -> W.heap.size <= W'.heap.size -> W'.os = W.os -> W'.tape = W.tape -> W'.output = W.output -> J k W')
  (hY : ∀ k W, k < 3 -> J k W -> Boxes b (textB (restK k)) W -> YieldAt F (n - 1) Tryz.prog l #[.string (textB (lineK k))] W fun e W' => e = .returned (.bool true) /\ J (k + 1) W' /\ Boxes b (textB (restK k)) W')
  (W : World) (h0 : J 0 W) (hb : Boxes b (textB (restK 0)) W) :
  CallsIn F n Tryz.prog 88 (#[.func (.yield l) #[] #[]] ++ #[.pointer (some ⟨b + 1, 0, none⟩), .pointer (some ⟨b, 0, none⟩), .pointer (some ⟨b + 2, 0, none⟩)]) W fun e W' => (∃ v, e = .returned v) /\ J 3 W' := by
 refine callsIn_of_wp Tryz.func88 rfl hF ?_ hro
 simp only [Tryz.ntmps88, List.size_toArray, List.length_cons, List.length_nil, Nat.reduceAdd, Nat.reduceSub, Array.replicate_succ, Array.replicate_zero, List.push_toArray, List.append_toArray, List.nil_append, List.cons_append]
 obtain ⟨c0, -, c1, c2⟩ := hb.cells
 have hset : ∀ k W s, J k W -> J k (W.setCell ⟨b, 0, none⟩ s) := fun k W s h => hJ k W _ h (fun j _ hjb => Below.heap_setCell _ _ _ _ hjb) (by simp [World.setCell]) rfl rfl rfl
 have hstep : ∀ k W W', J k W -> Below W.heap.size W W' -> J k W' := fun k W W' h hw => hJ k W W' h (fun j hj _ => hw.block j hj) hw.size hw.os hw.tape hw.output
 have hbox : ∀ {s W W'}, Boxes b s W -> Below W.heap.size W W' -> Boxes b s W' := fun h hw => h.same fun k hk _ => hw.block k hk
 clear hJ
 have ix0 : Lib.indexByte (restK 0) 10 = 13 := by decide
 have ix1 : Lib.indexByte (restK 1) 10 = 5 := by decide
 have ix2 : Lib.indexByte (restK 2) 10 = -1 := by decide
 have z0 : (textB (restK 0)).size = 20 := by decide
 have x0 : (textB (restK 0)).extract 0 13 = textB (lineK 0) := by decide
 have y0 : (textB (restK 0)).extract 14 20 = textB (restK 1) := by decide
 have z1 : (textB (restK 1)).size = 6 := by decide
 have x1 : (textB (restK 1)).extract 0 5 = textB (lineK 1) := by decide
 have e2 : textB (restK 2) = ByteArray.empty := by decide
 have e3 : textB (lineK 2) = ByteArray.empty := by decide
 have hIx2 := hIx 2
 have hY2 := hY 2
 rw [e2] at hIx2 hY2
 rw [e3] at hY2
 gi_wp2
 refine wpIn_loop_rounds 3 ?_
 rw [roundsIn_succ]
 gi_wp2_with (gi_at_call 90; refine (hIx 0 W h0).mono ?_)
 rintro e w1 ⟨rfl, hw1⟩
 rw [ix0]
 replace hb := hbox hb hw1
 replace h0 := hstep _ _ _ h0 hw1
 obtain ⟨fn, tmps, assign, body, hy, hR⟩ := hY 0 w1 (by omega) h0 hb
 clear c0 c1 c2 hw1 h0
 obtain ⟨c0, -, c1, c2⟩ := hb.cells
 gi_wp2
 refine hR.mono ?_
 clear hy hR c0 c1 c2 hb
 rintro e w2 ⟨rfl, h0, hb⟩
 obtain ⟨c0, c3, c1, c2⟩ := hb.cells
 gi_wp2
 clear c0 c1 c2 c3
 replace h0 := hset _ _ (.string (textB (restK 1))) h0
 replace hb := hb.set (s' := textB (restK 1))
 generalize w2.setCell ⟨b, 0, none⟩ (.string (textB (restK 1))) = w4 at *
 obtain ⟨c0, -, c1, c2⟩ := hb.cells
 rw [roundsIn_succ]
 gi_wp2_with (gi_at_call 90; refine (hIx 1 w4 h0).mono ?_)
 rintro e w1 ⟨rfl, hw1⟩
 rw [ix1]
 replace hb := hbox hb hw1
 replace h0 := hstep _ _ _ h0 hw1
 obtain ⟨fn, tmps, assign, body, hy, hR⟩ := hY 1 w1 (by omega) h0 hb
 clear c0 c1 c2 hw1 h0
 obtain ⟨c0, -, c1, c2⟩ := hb.cells
 gi_wp2
 refine hR.mono ?_
 clear hy hR c0 c1 c2 hb
 rintro e w2 ⟨rfl, h0, hb⟩
 obtain ⟨c0, c3, c1, c2⟩ := hb.cells
 gi_wp2
 clear c0 c1 c2 c3
 replace h0 := hset _ _ (.string ByteArray.empty) h0
 replace hb := hb.set (s' := ByteArray.empty)
 generalize w2.setCell ⟨b, 0, none⟩ (.string ByteArray.empty) = w4 at *
 obtain ⟨c0, -, c1, c2⟩ := hb.cells
 rw [roundsIn_succ]
 gi_wp2_with (gi_at_call 90; refine (hIx2 w4 h0).mono ?_)
 rintro e w1 ⟨rfl, hw1⟩
 rw [ix2]
 replace hb := hbox hb hw1
 replace h0 := hstep _ _ _ h0 hw1
 obtain ⟨fn, tmps, assign, body, hy, hR⟩ := hY2 w1 (by omega) h0 hb
 clear c0 c1 c2 hw1 h0
 obtain ⟨c0, -, c1, c2⟩ := hb.cells
 gi_wp2
 refine hR.mono ?_
 rintro e w2 ⟨rfl, h0, hb⟩
 gi_wp2
 go_end0
 exact ⟨⟨_, rfl⟩, h0⟩
end Go.Proofs.YtlojijllmadnoaaGreatDoor
namespace Go.Ev
open Go.RowKit
def lay (D : List Deferred) (a : Act) : Act := { a with defers := a.defers ++ D }
theorem lay_put {D : List Deferred} {a : Act} {dst : Option Nat} {v : Value} : (lay D a).put dst v = lay D (a.put dst v) := by cases dst <;> rfl
theorem lay_eval {D : List Deferred} {a : Act} : (lay D a).eval = a.eval := funext fun x => by cases x <;> rfl
def fw : Option Nat -> Fence
 | none => Fence.wide
 | some l => Fence.wide.inRound l
theorem fw_round (ro : Option Nat) : (fw ro).round = ro := by cases ro <;> rfl
theorem fw_fn (ro : Option Nat) (f : FuncId) : (fw ro).fn f := by cases ro <;> trivial
theorem fw_depth (ro : Option Nat) (h : (fw ro).depth.isSome = true) : False := by cases ro <;> cases h
theorem fw_calls (ro : Option Nat) {n : Nat} {P : Program} {f : FuncId} {args : Array Value} {w : World} {R : Ending -> World -> Prop} (h : Calls P f args w R) : CallsIn (fw ro) n P f args w R := by
 cases ro with
 | none => exact callsIn_wide.2 h
 | some l => exact CallsIn.inRound l (callsIn_wide.2 h)
theorem fw_rows (ro : Option Nat) {n : Nat} {P : Program} {row : String} {args : Array Value} {w : World} {R : Value -> World -> Prop} (h : Rows P row args w R) : RowsIn (fw ro) n P row args w R := by
 have : RowsIn Fence.wide n P row args w R := fun c cs _ => by
  obtain ⟨v, w', r, s⟩ := h c cs
  exact ⟨v, w', r, stepsIn_wide.2 s⟩
 cases ro with
 | none => exact this
 | some l => exact this
def notDefer : Op -> Bool
 | .defer _ => false
 | _ => true
section
variable {P : Program} {D : List Deferred} {ro : Option Nat} {n : Nat} {Q Q' : Exit -> Act -> World -> Prop} {K K' : Act -> World -> Prop} {ops : Array Oper}
theorem op_in {o : Oper} {a : Act} {w : World} (hd : notDefer o.op = true) (hK : ∀ a w, K a w -> K' (lay D a) w) (hQ : ∀ e a w, Q e a w -> Q' e (lay D a) w) (hO : ∀ a w, ¬ Q .outgrown a w) (h : o.wp P a w K Q) : o.wpIn (fw ro) n P (lay D a) w K' Q' := by
 refine ⟨fun f _ => fw_fn ro f, ?_⟩
 rw [fw_round, Oper.semAt_eq _ _ _ (fun c e => by rw [e] at hd; cases hd), lay_eval]
 unfold Oper.wp at h
 generalize (execOp a.eval o).run P w = r at *
 cases r with
 | ok x w' =>
  cases x with
  | value v =>
   rw [Oper.uponIn_value, lay_put]
   exact hK _ _ h
  | skip =>
   rw [Oper.uponIn_skip, lay_put]
   exact hK _ _ h
  | defer d =>
   rw [Oper.uponIn_defer]
   have : ({ lay D a with defers := d :: (lay D a).defers } : Act) = lay D { a with defers := d :: a.defers } := rfl
   rw [this, lay_put]
   exact hK _ _ h
  | enter f args =>
   rw [Oper.uponIn_enter]
   rw [Oper.upon_enter] at h
   refine ⟨fun e => (fw_depth ro e).elim, (fw_calls ro h).mono fun e w'' he => ?_⟩
   cases e with
   | returned v =>
    show K' ((lay D a).put o.dst v) w''
    rw [lay_put]
    exact hK _ _ he
   | panicked ch => exact hQ _ _ _ he
   | outgrown => obtain ⟨a0, w0, h0⟩ := he; exact (hO _ _ h0).elim
  | row row args =>
   rw [Oper.uponIn_row]
   rw [Oper.upon_row] at h
   refine ⟨fun e => (fw_depth ro e).elim, (fw_rows ro h).mono fun v w'' he => ?_⟩
   rw [lay_put]
   exact hK _ _ he
  | _ => exact h.elim
 | halt x w' =>
  cases x with
  | panic v => exact hQ _ _ _ h
  | _ => exact h.elim
theorem opI_in {i : Nat} {a : Act} {w : World} (hd : ∀ o ∈ ops, notDefer o.op = true) (hK : ∀ a w, K a w -> K' (lay D a) w) (hQ : ∀ e a w, Q e a w -> Q' e (lay D a) w) (hO : ∀ a w, ¬ Q .outgrown a w) (h : wpOp P ops Q i K a w) : wpOpIn (fw ro) n P ops Q' i K' (lay D a) w := by
 unfold wpOp at h
 unfold wpOpIn
 cases ho : ops[i]? with
 | none =>
  rw [ho] at h
  exact hK _ _ h
 | some o =>
  rw [ho] at h
  dsimp only at h ⊢
  have hy : yielded ops (lay D a).tmps = yielded ops a.tmps := rfl
  rw [hy]
  split at h
  ·rename_i hw
   rw [if_pos hw]
   rcases h with h | ⟨_, a0, w0, h0⟩
   ·exact op_in (hd o (Array.mem_of_getElem? ho)) hK hQ hO h
   ·exact (hO _ _ h0).elim
  ·rename_i hw
   rw [if_neg hw]
   refine ⟨fun f _ => fw_fn ro f, ?_⟩
   rw [lay_put]
   exact hK _ _ h
theorem ops_in (hd : ∀ o ∈ ops, notDefer o.op = true) (hQ : ∀ e a w, Q e a w -> Q' e (lay D a) w) (hO : ∀ a w, ¬ Q .outgrown a w) : ∀ {l : List Nat} {a : Act} {w : World}, wpOps P ops Q l a w -> wpOpsIn (fw ro) n P ops Q' l (lay D a) w
 | [], a, w, h => hQ _ _ _ h
 | i :: r, a, w, h => by
  rw [wpOps_cons] at h
  rw [wpOpsIn_cons]
  exact opI_in hd (fun a w h => ops_in hd hQ hO h) hQ hO h
theorem any_in (hd : ∀ o ∈ ops, notDefer o.op = true) (hQ : ∀ e a w, Q e a w -> Q' e (lay D a) w) (hO : ∀ a w, ¬ Q .outgrown a w) : ∀ {fuel : Nat} {listed : Array Bool} {a : Act} {w : World}, wpAny P .any ops Q fuel listed a w -> wpAnyIn (fw ro) n P .any ops Q' fuel listed (lay D a) w
 | 0, _, _, _, h => ⟨h.1, hQ _ _ _ h.2⟩
 | fuel + 1, listed, a, w, h => ⟨fun e => hQ _ _ _ (h.1 e), fun i hi => opI_in hd (fun a w h => any_in hd hQ hO h) hQ hO (h.2 i hi)⟩
end
def rdCode : Code -> Bool
 | .region _ ops _ => ops.all fun o => notDefer o.op
 | .seq a b => rdCode a && rdCode b
 | .cond _ a b => rdCode a && rdCode b
 | .block _ c => rdCode c
 | .loop c => rdCode c
 | .skip => true
 | .exit _ => true
 | .ret => true
 | _ => false
section
variable {P : Program} {w0 : World} {F I : Nat -> Prop} {Z : Zy} {N : Nat}
theorem exec_in {call : Callf} (hcall : CallAll P Z.gl call) (hm : P.follows .mixedOrders = true) {mu : FuncId -> Bool} (D : List Deferred) (ro : Option Nat) (k : Nat) : ∀ (n : Nat) {c : Code} {st : St} {a : Act} {w : World} {e : Ex} {st' : St} {Q : Exit -> Act -> World -> Prop}, okCode N c = true -> rdCode c = true -> To w0 F I Z N st a w ->
  exec P call mu n c st = some (e, st') -> (∀ a' w', To w0 F I Z N st' a' w' -> Q e.cv (lay D a') w') -> c.wpIn (fw ro) k P Q (lay D a) w := by
 intro n
 induction n with
 | zero => intro c st a w e st' Q _ _ _ h; simp [exec] at h
 | succ n ih =>
  intro c st a w e st' Q hok hrd hr h hQ
  cases c with
  | skip => simp only [exec, Option.some.injEq, Prod.mk.injEq] at h; obtain ⟨rfl, rfl⟩ := h; exact wpIn_skip (hQ _ _ hr)
  | region id ops draw =>
   unfold exec at h
   simp only at h
   split at h
   ·rename_i s0 hs0
    have hr0 : To w0 F I Z N s0 a w := by
     unfold preFrz at hs0
     split at hs0
     ·obtain ⟨β, hb⟩ := hr
      exact ⟨β, hb.frzAll hs0⟩
     ·cases hs0; exact hr
    split at h
    ·rename_i s hs
     cases h
     have hd : ∀ o ∈ ops, notDefer o.op = true := by
      unfold rdCode at hrd
      rw [Array.all_eq_true'] at hrd
      exact hrd
     have key := region_st (Q := fun e a w => e = .normal /\ To w0 F I Z N st' a w) hcall hok hr0 hs fun a' w' h => ⟨rfl, h⟩
     have hQQ : ∀ e a w, (e = Exit.normal /\ To w0 F I Z N st' a w) -> Q e (lay D a) w := by
      rintro e a w ⟨rfl, h⟩
      exact hQ _ _ h
     have hO : ∀ a w, ¬ (Exit.outgrown = Exit.normal /\ To w0 F I Z N st' a w) := fun a w h => by cases h.1
     cases draw with
     | false => exact wpIn_region (ops_in hd hQQ hO key)
     | true => exact wpIn_region_any hm (any_in hd hQQ hO key)
    ·cases h
   ·cases h
  | seq x y =>
   unfold okCode at hok
   unfold rdCode at hrd
   simp only [Bool.and_eq_true] at hok hrd
   unfold exec at h
   simp only at h
   split at h
   ·rename_i s hs
    exact wpIn_seq (ih hok.1 hrd.1 hr hs fun a' w' hr' => ih hok.2 hrd.2 hr' h hQ)
   ·rename_i hne
    refine wpIn_seq (ih hok.1 hrd.1 hr h fun a' w' hr' => ?_)
    have hq := hQ a' w' hr'
    cases e with
    | normal => exact (hne _ h).elim
    | exit i => exact hq
    | ret => exact hq
    | goto l => exact hq
  | cond x t f =>
   unfold okCode at hok
   unfold rdCode at hrd
   simp only [Bool.and_eq_true] at hok hrd
   unfold exec at h
   simp only at h
   split at h
   ·rename_i b hb
    obtain ⟨β, hrel⟩ := hr
    have hv := hrel.eval x
    rw [hb] at hv
    refine wpIn_cond (t := b) (by rw [lay_eval]; exact rep_bool hv) ?_
    cases b with
    | true => exact ih hok.1 hrd.1 ⟨β, hrel⟩ h hQ
    | false => exact ih hok.2 hrd.2 ⟨β, hrel⟩ h hQ
   ·cases h
  | block id b =>
   unfold exec at h
   simp only at h
   refine wpIn_block ?_
   split at h
   ·rename_i i s hs
    refine ih hok hrd hr hs fun a' w' hr' => ?_
    show if i = id then Q .normal (lay D a') w' else Q (.exit i) (lay D a') w'
    split at h
    ·rename_i hi
     cases h
     rw [if_pos hi]
     exact hQ a' w' hr'
    ·rename_i hi
     cases h
     rw [if_neg hi]
     exact hQ a' w' hr'
   ·rename_i hne
    refine ih hok hrd hr h fun a' w' hr' => ?_
    have hq := hQ a' w' hr'
    cases e with
    | normal => exact hq
    | exit i => exact (hne _ _ h).elim
    | ret => exact hq
    | goto l => exact hq
  | loop b =>
   have key : ∀ (m : Nat), m <= n + 1 -> ∀ {st : St} {a : Act} {w : World}, To w0 F I Z N st a w -> exec P call mu m (.loop b) st = some (e, st') -> Code.roundsIn (fw ro) k P b Q m (lay D a) w := by
    intro m
    induction m with
    | zero => intro _ st a w _ h; simp [exec] at h
    | succ m ihm =>
     intro hle st a w hr h
     rw [roundsIn_succ]
     unfold exec at h
     simp only at h
     split at h
     ·rename_i s hs
      have hs' := exec_mono (CallLe.refl call) (show m <= n by omega) hs
      exact ih hok hrd hr hs' fun a' w' hr' => ihm (by omega) hr' h
     ·rename_i hne
      have h' := exec_mono (CallLe.refl call) (show m <= n by omega) h
      refine ih hok hrd hr h' fun a' w' hr' => ?_
      have hq := hQ a' w' hr'
      cases e with
      | normal => exact (hne _ h).elim
      | exit i => exact hq
      | ret => exact hq
      | goto l => exact hq
   exact wpIn_loop_rounds (n + 1) (key (n + 1) (Nat.le_refl _) hr h)
  | rangeFunc f p x y => simp [exec] at h
  | exit id => simp only [exec, Option.some.injEq, Prod.mk.injEq] at h; obtain ⟨rfl, rfl⟩ := h; exact wpIn_exit (hQ _ _ hr)
  | scope b => cases hrd
  | label l => cases hrd
  | goto l => cases hrd
  | ret => simp only [exec, Option.some.injEq, Prod.mk.injEq] at h; obtain ⟨rfl, rfl⟩ := h; exact wpIn_ret (hQ _ _ hr)
  | refuse why => simp [exec] at h
end
end Go.Ev
namespace Go.Ev
open Go.RowKit
section
variable {w w' : World} {M M' : Nat -> Prop}
theorem Rep.turn {C : Nat -> Prop} (hc : ∀ (k : Nat) cs ty fz, w.heap[k]? = some (.cells cs ty fz) -> ¬ C k -> w'.heap[k]? = some (.cells cs ty fz)) (hC : ∀ k, C k -> M k) (hM : ∀ b, b < w.heap.size -> M' b -> M b) :
  ∀ {v : Value} {s : SV}, Rep w M v s -> Rep w' M' v s := by
 have hcell : ∀ (p : Addr) (v : Value), ¬ M p.block -> w.cell? p = some v -> w'.cell? p = some v := by
  intro p v hm hv
  have hlt : p.block < w.heap.size := World.block_lt_of_cell? w p hv
  unfold World.cell? at hv ⊢
  cases ho : w.heap[p.block]? with
  | none => rw [ho] at hv; simp at hv
  | some o =>
   rw [ho] at hv
   cases o with
   | cells cs ty fz => rw [hc _ cs ty fz ho (fun h => hm (hC _ h))]; exact hv
   | _ => simp at hv
 intro v s h
 induction h with
 | bool b => exact .bool b
 | int k n => exact .int k n
 | str s => exact .str s
 | sl0 A n cap h => exact .sl0 A n cap h
 | sl a n cap h cells c hb hcl _ ih =>
  cases cells with
  | nil => exact .sl0 _ n cap h
  | cons x l =>
   have hlt : a.block < w.heap.size := World.block_lt_of_cell? w a (hcl 0 x rfl)
   exact .sl a n cap h _ c (fun hm => hb (hM _ hlt hm)) (fun i s hi => hcell _ _ (by rw [block_add]; exact hb) (hcl i s hi)) ih
 | agg vs cells hl _ ih => exact .agg vs cells hl ih
 | tup vs cells hl _ ih => exact .tup vs cells hl ih
 | mem0 a => exact .mem0 a
 | mem a cells c hb hcl _ ih =>
  cases cells with
  | nil => exact .mem0 a
  | cons x l =>
   have hlt : a.block < w.heap.size := World.block_lt_of_cell? w a (hcl 0 x rfl)
   exact .mem a _ c (fun hm => hb (hM _ hlt hm)) (fun i s hi => hcell _ _ (by rw [block_add]; exact hb) (hcl i s hi)) ih
 | fn f vs caps hl _ ih => exact .fn f vs caps hl ih
 | con v h => exact .con v h
theorem RepT.turn {C : Nat -> Prop} {β : Nat -> Nat -> Nat} (hc : ∀ (k : Nat) cs ty fz, w.heap[k]? = some (.cells cs ty fz) -> ¬ C k -> w'.heap[k]? = some (.cells cs ty fz)) (hC : ∀ k, C k -> M k) (hM : ∀ b, b < w.heap.size -> M' b -> M b)
  {v : Value} {t : TV} (hn : ∀ d g, t.id = some (d, g) -> ¬ C (β d g)) (h : RepT β w M v t) : RepT β w' M' v t := by
 cases t with
 | sv s => exact Rep.turn hc hC hM h
 | nil => exact h
 | ptr d g off => exact h
 | ref d g size off n =>
  obtain ⟨cap, cs, ty, hv, hn', hb, hsz⟩ := h
  exact ⟨cap, cs, ty, hv, hn', hc _ _ _ _ hb (hn d g rfl), hsz⟩
 | rfc d g size off n c =>
  obtain ⟨cs, ty, hv, hn', hb, hsz⟩ := h
  exact ⟨cs, ty, hv, hn', hc _ _ _ _ hb (hn d g rfl), hsz⟩
 | pst d g => exact h
 | undef => trivial
 | skip => exact h
end
def ownB (β : Nat -> Nat -> Nat) (st : St) (k : Nat) : Prop := ∃ d g, (st.obj d g).isSome = true /\ β d g = k
def TV.stands (st : St) (v : TV) : Prop := ∀ d g, v.id = some (d, g) -> (st.obj d g).isSome = true
def Live (G : List (Nat × Value)) (F : Nat -> Prop) (L N : Nat) (y : Nat -> Value) (st : St) (a : Act) (w : World) : Prop := ∃ z β, Rel w F (ownB β st) ⟨z, y, True, G⟩ N β st a w /\ ∀ k, ownB β st k -> L <= k
section
variable {w0 w w' : World} {F F' I C : Nat -> Prop} {Z : Zy} {N : Nat} {β : Nat -> Nat -> Nat} {st s : St} {a a' : Act} {y : Nat -> Value}
theorem live_mk {L : Nat} (h : Rel w0 F I Z N β st a w) (hL : L <= w0.heap.size) (hI : ∀ k, I k -> L <= k)
  (hc : ∀ (k : Nat) cs ty fz, w.heap[k]? = some (.cells cs ty fz) -> ¬ C k -> w'.heap[k]? = some (.cells cs ty fz)) (hC : ∀ k, C k -> Mut F β st k /\ ¬ ownB β s k) (hsz : w.heap.size <= w'.heap.size)
  (hF : ∀ k, F' k -> k < w'.heap.size /\ (k < w.heap.size -> Mut F β st k /\ ¬ ownB β s k))
  (ho : ∀ d g cs, s.obj d g = some cs -> st.obj d g = some cs) (hg : s.gen = st.gen)
  (hh : ∀ d g ts, s.hob d g = some ts -> (s.obj d g).isSome = true /\ ∃ ts0, st.hob d g = some ts0 /\ ∀ (i : Nat) (t : TV), ts[i]? = some t -> ∃ t0, ts0[i]? = some t0 /\ (t = t0 \/ t = .undef) /\ t.stands s)
  (hd : a'.defers = []) (hs : a'.tmps.size = N)
  (ht : ∀ t, RepT β w (Mut F β st) (a'.tmps.getD t undef) (s.tmp t) /\ (s.tmp t).stands s) (hu : ∀ t, RepT β w (Mut F β st) (y t) (s.up t) /\ (s.up t).stands s) : Live Z.gl F' L N y s a' w' := by
 have his : ∀ {d g}, (s.obj d g).isSome = true -> (st.obj d g).isSome = true := by
  intro d g h1
  cases e : s.obj d g with
  | none => rw [e] at h1; cases h1
  | some cs => rw [ho d g cs e]; rfl
 have hM : ∀ b, b < w.heap.size -> Mut F' β s b -> Mut F β st b := by
  rintro b hb (hf | ⟨d, g, h1, h2⟩)
  ·exact ((hF b hf).2 hb).1
  ·exact .inr ⟨d, g, his h1, h2⟩
 have hCM : ∀ k, C k -> Mut F β st k := fun k hk => (hC k hk).1
 have hrep : ∀ {v : Value} {x : SV}, Rep w (Mut F β st) v x -> Rep w' (Mut F' β s) v x := fun hr => Rep.turn hc hCM hM hr
 have hT : ∀ {v : Value} {x : TV}, RepT β w (Mut F β st) v x -> x.stands s -> RepT β w' (Mut F' β s) v x := fun hr hx => RepT.turn hc hCM hM (fun d g e hk => (hC _ hk).2 ⟨d, g, hx d g e, rfl⟩) hr
 have hgen : ∀ {x : TV}, x.stands s -> ∀ d g, x.id = some (d, g) -> g < s.gen d := fun hx d g e => by rw [hg]; exact h.gens d g (his (hx d g e))
 have hblk : ∀ {d g}, (s.obj d g).isSome = true -> ∀ cs ty, w.heap[β d g]? = some (.cells cs ty (0, 0)) -> w'.heap[β d g]? = some (.cells cs ty (0, 0)) := fun h1 cs ty hb => hc _ _ _ _ hb (fun hk => (hC _ hk).2 ⟨_, _, h1, rfl⟩)
 have hown : ∀ k, ownB β s k -> L <= k := by
  rintro k ⟨d, g, h1, rfl⟩
  obtain ⟨o1, o2⟩ := h.own d g (his h1)
  by_cases hd : d < N0 \/ H0 <= d
  ·rcases o1 hd with h2 | ⟨_, h2⟩
   ·omega
   ·exact hI _ h2
  ·exact hI _ (o2 (by omega) (by omega))
 refine ⟨Z.z, β, ?_, hown⟩
 exact {
  defers := hd
  size := hs
  tmps := fun t => hT (ht t).1 (ht t).2
  ids := fun t d g e => hgen (ht t).2 d g e
  objs := fun d g cells hcs => by
   obtain ⟨us, ty, hb, hall⟩ := h.objs d g cells (ho d g cells hcs)
   refine ⟨us, ty, hblk (by rw [hcs]; rfl) _ _ hb, fun i x hi => ?_⟩
   obtain ⟨h1, v, hv, hr⟩ := hall i x hi
   exact ⟨h1, v, hv, hrep hr⟩
  own := fun d g h1 => ⟨fun _ => .inr ⟨trivial, d, g, h1, rfl⟩, fun _ _ => ⟨d, g, h1, rfl⟩⟩
  room := h.room
  inj := fun d g d' g' h1 h2 e => h.inj d g d' g' (his h1) (his h2) e
  gens := fun d g h1 => by rw [hg]; exact h.gens d g (his h1)
  ext := Ext.refl _ _
  old := fun k hk => (hF k hk).1
  imps := fun k hk => ⟨.inr trivial, fun _ hf => by
   obtain ⟨d, g, h1, rfl⟩ := hk
   have hlt : β d g < w.heap.size := by
    cases e : s.obj d g with
    | none => rw [e] at h1; cases h1
    | some cs =>
     obtain ⟨us, ty, hb, _⟩ := h.objs d g cs (ho d g cs e)
     exact lt_of_heap hb
   exact ((hF _ hf).2 hlt).2 ⟨d, g, h1, rfl⟩⟩
  pin := h.pin
  ups := fun t => hT (hu t).1 (hu t).2
  uids := fun t d g e => hgen (hu t).2 d g e
  glob := fun g v hg => hrep (h.glob g v hg)
  hobs := fun d g ts hts => by
   obtain ⟨h0, ts0, hts0, hall⟩ := hh d g ts hts
   obtain ⟨h1, h2, us, ty, hb, hcell⟩ := h.hobs d g ts0 hts0
   have h2' : s.obj d g = some [] := by
    cases e : s.obj d g with
    | none => rw [e] at h0; cases h0
    | some cs => have := ho d g cs e; rw [h2] at this; exact this.symm
   refine ⟨h1, h2', us, ty, hblk h0 _ _ hb, fun i t hi => ?_⟩
   obtain ⟨t0, ht0, hor, hst⟩ := hall i t hi
   obtain ⟨v, hv, hv1, hvr, _⟩ := hcell i t0 ht0
   refine ⟨v, hv, hv1, ?_, fun d' g' e => hgen hst d' g' e⟩
   rcases hor with rfl | rfl
   ·exact hT hvr hst
   ·trivial }
def TV.cln (st : St) (v : TV) : TV := match v.id with
 | some (d, g) => if (st.obj d g).isSome then v else .undef
 | none => v
theorem cln_or (st : St) (v : TV) : v.cln st = v \/ v.cln st = .undef := by
 unfold TV.cln
 split
 ·split
  ·exact .inl rfl
  ·exact .inr rfl
 ·exact .inl rfl
theorem cln_stands (st : St) (v : TV) : (v.cln st).stands st := by
 intro d g h
 unfold TV.cln at h
 split at h
 ·rename_i d' g' e
  split at h
  ·rename_i h1
   rw [e] at h
   cases h
   exact h1
  ·cases h
 ·rename_i e
  rw [e] at h
  cases h
theorem cln_rep {w : World} {M : Nat -> Prop} {v : Value} {t : TV} (st : St) (h : RepT β w M v t) : RepT β w M v (t.cln st) := by
 rcases cln_or st t with e | e
 ·rw [e]; exact h
 ·rw [e]; trivial
def St.with (st : St) (tm tu : Nat -> TV) : St := { st with tmp := fun t => (tm t).cln st, up := fun t => (tu t).cln st, hob := fun d g => (st.hob d g).map fun ts => ts.map (·.cln st) }
theorem live_with {L : Nat} (h : Rel w0 F I Z N β st a w) (hL : L <= w0.heap.size) (hI : ∀ k, I k -> L <= k) {s0 : St} {tm tu : Nat -> TV} {T : Array Value}
  (hc : ∀ (k : Nat) cs ty fz, w.heap[k]? = some (.cells cs ty fz) -> ¬ C k -> w'.heap[k]? = some (.cells cs ty fz)) (hC : ∀ k, C k -> Mut F β st k /\ ¬ ownB β s0 k) (hsz : w.heap.size <= w'.heap.size)
  (hF : ∀ k, F' k -> k < w'.heap.size /\ (k < w.heap.size -> Mut F β st k /\ ¬ ownB β s0 k))
  (ho : ∀ d g cs, s0.obj d g = some cs -> st.obj d g = some cs) (hg : s0.gen = st.gen) (hh : ∀ d g ts, s0.hob d g = some ts -> (s0.obj d g).isSome = true /\ st.hob d g = some ts)
  (hs : T.size = N) (ht : ∀ t, RepT β w (Mut F β st) (T.getD t undef) (tm t)) (hu : ∀ t, RepT β w (Mut F β st) (y t) (tu t)) : Live Z.gl F' L N y (s0.with tm tu) ⟨T, []⟩ w' := by
 refine live_mk (C := C) h hL hI hc hC hsz hF ho hg (fun d g ts hts => ?_) rfl hs (fun t => ⟨cln_rep s0 (ht t), cln_stands s0 _⟩) (fun t => ⟨cln_rep s0 (hu t), cln_stands s0 _⟩)
 have hts : (s0.hob d g).map (fun ts => ts.map (·.cln s0)) = some ts := hts
 obtain ⟨ts0, h0, rfl⟩ := map_some hts
 obtain ⟨h1, h2⟩ := hh d g ts0 h0
 refine ⟨h1, ts0, h2, fun i t hi => ?_⟩
 rw [List.getElem?_map] at hi
 obtain ⟨t0, ht0, rfl⟩ := map_some hi
 exact ⟨t0, ht0, cln_or s0 t0, cln_stands s0 t0⟩
theorem own_apart (h : Rel w0 F I Z N β st a w) (ho : Z.old) {k : Nat} (hk : F k) : ¬ ownB β st k := by
 rintro ⟨d, g, h1, rfl⟩
 have hlt := h.old _ hk
 obtain ⟨o1, o2⟩ := h.own d g h1
 have hnot : ¬ I (β d g) := fun hi => (h.imps _ hi).2 ho hk
 by_cases hd : d < N0 \/ H0 <= d
 ·rcases o1 hd with h2 | ⟨_, h2⟩
  ·omega
  ·exact hnot h2
 ·exact hnot (o2 (by omega) (by omega))
theorem live_again {L : Nat} (h : Rel w0 F I Z N β st a w) (hL : L <= w0.heap.size) (hI : ∀ k, I k -> L <= k) (hold : Z.old) {tm tu : Nat -> TV} {T : Array Value}
  (hc : ∀ (k : Nat) cs ty fz, w.heap[k]? = some (.cells cs ty fz) -> ¬ C k -> w'.heap[k]? = some (.cells cs ty fz)) (hC : ∀ k, C k -> F k) (hsz : w.heap.size <= w'.heap.size)
  (hF : ∀ k, F' k -> k < w'.heap.size /\ (k < w.heap.size -> F k))
  (hs : T.size = N) (ht : ∀ t, RepT β w (Mut F β st) (T.getD t undef) (tm t)) (hu : ∀ t, RepT β w (Mut F β st) (y t) (tu t)) : Live Z.gl F' L N y (st.with tm tu) ⟨T, []⟩ w' :=
 live_with (C := C) h hL hI hc (fun k hk => ⟨.inl (hC k hk), own_apart h hold (hC k hk)⟩) hsz (fun k hk => ⟨(hF k hk).1, fun hlt => ⟨.inl ((hF k hk).2 hlt), own_apart h hold ((hF k hk).2 hlt)⟩⟩)
  (fun _ _ _ h => h) rfl (fun d g ts hts => by
   obtain ⟨_, h2, _⟩ := h.hobs d g ts hts
   exact ⟨by rw [h2]; rfl, hts⟩) hs ht hu
end
section
variable {P : Program} {w0 : World} {F I : Nat -> Prop} {Z : Zy} {N : Nat}
theorem pre_in {call : Callf} (hcall : CallAll P Z.gl call) {mu : FuncId -> Bool} {D : List Deferred} {ro : Option Nat} {n : Nat} {ops : Array Oper} {Q : Exit -> Act -> World -> Prop} (hd : ∀ o ∈ ops.toList, ∀ d, o.dst = some d -> d < N) (hnd : ∀ o ∈ ops, notDefer o.op = true) {st' : St} :
  ∀ {m k : Nat} {st : St} {a : Act} {w : World}, execOps P call mu false ops ((ops.toList.drop k).take m) st = some st' -> k + m <= ops.size -> To w0 F I Z N st a w ->
   (∀ a' w', To w0 F I Z N st' a' w' -> wpOpsIn (fw ro) n P ops Q (List.range' (k + m) (ops.size - (k + m))) (lay D a') w') -> wpOpsIn (fw ro) n P ops Q (List.range' k (ops.size - k)) (lay D a) w
 | 0, k, st, a, w, he, _, hr, hK => by
  rw [List.take_zero] at he
  cases he
  exact hK a w hr
 | m + 1, k, st, a, w, he, hle, hr, hK => by
  have hk : k < ops.size := by omega
  have ho : ops[k]? = some ops[k] := Array.getElem?_eq_getElem hk
  have hdr : ops.toList.drop k = ops[k] :: ops.toList.drop (k + 1) := by
   rw [List.drop_eq_getElem_cons (by simpa using hk)]
   simp
  rw [hdr, List.take_succ_cons] at he
  unfold execOps at he
  cases e : stepO P call mu false ops ops[k] st with
  | none => rw [e] at he; cases he
  | some s1 =>
   rw [e] at he
   obtain ⟨β, hr⟩ := hr
   rw [show ops.size - k = (ops.size - (k + 1)) + 1 by omega, List.range'_succ, wpOpsIn_cons]
   have h1 := stepO_wpOp hr hcall ho (fun d e => hd ops[k] (by simp) d e) e (K := To w0 F I Z N s1) (fun _ _ h => h) (fun _ _ _ => False)
   refine opI_in hnd (fun a' w' hto => ?_) (fun _ _ _ h => h.elim) (fun _ _ h => h) h1
   refine pre_in hcall hd hnd he (by omega) hto fun a2 w2 h2 => ?_
   rw [show k + 1 + m = k + (m + 1) by omega]
   exact hK a2 w2 h2
theorem callI_in {D : List Deferred} {ro : Option Nat} {n : Nat} {ops : Array Oper} {Q : Exit -> Act -> World -> Prop} {i : Nat} {dst : Option Nat} {f : Operand} {args : Array Operand} {tys : Array TypeId} {ty : TypeId} {pos : String} {af : Array Edge} {g : FuncId} {vs : Array Value} {K : Act -> World -> Prop} {a : Act} {w : World}
  (ho : ops[i]? = some ⟨dst, .call { callee := .value f, args := args, argTypes := tys }, ty, pos, af, none⟩) (hf : a.eval f = .func (.func g) #[] vs) (h : Invk P g (args.map a.eval ++ vs) w fun e w' => ∃ v, e = .returned v /\ K (lay D (a.put dst v)) w') : wpOpIn (fw ro) n P ops Q i K (lay D a) w := by
 have hg : Goes P a ⟨dst, .call { callee := .value f, args := args, argTypes := tys }, ty, pos, af, none⟩ w (fun a' w' => K (lay D a') w') := calls_goes hf (h.mono fun e w' h => h)
 unfold wpOpIn
 rw [ho]
 dsimp only
 have hw : Region.wanted ⟨dst, .call { callee := .value f, args := args, argTypes := tys }, ty, pos, af, none⟩ (yielded ops (lay D a).tmps) = true := by simp [Region.wanted]
 rw [if_pos hw]
 exact op_in rfl (fun _ _ h => h) (fun _ _ _ h => h.elim) (fun _ _ h => h) (hg fun _ _ _ => False)
end
end Go.Ev
namespace Go.Proofs
open Go.Shelf Go.RowKit
variable {P : Program} {ρ : Ren}
theorem append_str {w : World} (base : Nat) (t u ty e : TypeId) (i : TypeInfo) (ht : P.underlying t = some (.slice e)) (hu : P.underlying u = some .string) (hi : P.info? e = some i) (hz : i.zero = some (.int .u8 0))
  (hsize : i.size = 1) (hby : i.bytes = 1) (v : Value) (n : Nat) (xs : List Value) (hown : w.ownsRow base e 1 v n xs) (s : ByteArray)
  (h63 : n + s.size <= maxLen) (hbytes : n + s.size <= 140737488355328) (hbase : base <= w.heap.size) :
  ∃ v' w', (Builtin.append_ #[t, u] ty #[v, .string s]).run P w = .ok v' w' /\ w'.ownsRow base e 1 v' (n + s.size) (xs ++ Lib.strCells s) /\ w.grownBy w' v.ownBlock /\ (v'.ownBlock = v.ownBlock \/ ∀ k, v'.ownBlock = some k -> w.heap.size <= k) := by
 obtain ⟨v', w', hr, h1, h2, _⟩ := Lib.run_append_own_string (P := P) w base t u ty e i ht hu hi hz hsize hby v n xs hown s h63 hbytes hbase
 refine ⟨v', w', hr, h1, h2, ?_⟩
 rcases hown.2 with ⟨rfl, rfl⟩ | ⟨g, cap, cur, rfl, hbg, hg, hnc, hcm, hcs, htake⟩
 ·right
  have hx : xs = [] := List.eq_nil_of_length_eq_zero (by simpa using hown.1)
  subst hx
  obtain ⟨v2, w2, hr2, h3, _, _⟩ := Lib.run_append_own_string (P := P) w w.heap.size t u ty e i ht hu hi hz hsize hby (.slice none 0 0) 0 [] (World.ownsRow_nil w w.heap.size e 1) s h63 hbytes (Nat.le_refl _)
  rw [hr] at hr2
  cases hr2
  intro k hk
  rcases h3.2 with ⟨e0, _⟩ | ⟨g, cap, cur, e0, hb, _⟩
  ·rw [e0] at hk; cases hk
  ·rw [e0] at hk; cases hk; exact hb
 ·have hxl : xs.length = n := by simpa using hown.1
  by_cases hroom : n + s.size <= cap
  ·left
   have hcs' : cur.size = cap := by simpa using hcs
   have hr2 := Lib.run_append_room_string (P := P) w t u ty e i ht hu hi hsize g n cap cur hg s hroom (by omega)
   rw [hr] at hr2
   cases hr2
   rfl
  ·right
   have holds : ∀ j u, xs[j]? = some u -> w.cell? ((⟨g, 0, none⟩ : Addr).add j) = some u := hown.cells (g := g) rfl
   have hr2 := Lib.run_append_grow_string (P := P) w t u ty e i (.int .u8 0) ht hu hi hz ⟨g, 0, none⟩ n cap xs (by rw [hsize]; simpa using hxl) holds s (by omega) (by simp only [maxLen] at h63; omega) (by rw [hby]; exact growslice_fits (by omega) (by omega))
   rw [hr] at hr2
   cases hr2
   intro k hk
   cases hk
   exact Nat.le_refl _
theorem wpList_append_str {w : World} {ops : Array Oper} {rest : List Oper} {o : Oper} {a : Act} {Q : Exit -> Act -> World -> Prop} (hgd : o.guard = none) (sl x : Operand) (t u : TypeId)
  (ho : o.op = .call { callee := .builtin .append, args := #[sl, x], argTypes := #[t, u] })
  (base : Nat) (e : TypeId) (i : TypeInfo) (ht : P.underlying t = some (.slice e)) (hu : P.underlying u = some .string) (hi : P.info? e = some i) (hz : i.zero = some (.int .u8 0))
  (hsize : i.size = 1) (hby : i.bytes = 1)
  (v : Value) (n : Nat) (xs : List Value) (hs : a.eval sl = v) (hown : w.ownsRow base e 1 v n xs) (s : ByteArray) (hx : a.eval x = .string s)
  (h63 : n + s.size <= maxLen) (hbytes : n + s.size <= 140737488355328) (hbase : base <= w.heap.size)
  (h : ∀ v' w', w'.ownsRow base e 1 v' (n + s.size) (xs ++ Lib.strCells s) -> w.grownBy w' v.ownBlock -> (v'.ownBlock = v.ownBlock \/ ∀ k, v'.ownBlock = some k -> w.heap.size <= k) -> wpList P ops Q rest (a.put o.dst v') w') : wpList P ops Q (o :: rest) a w := by
 refine wpList_plain hgd fun K hK => ?_
 obtain ⟨v', w', hr, h2, h3, h4⟩ := append_str (P := P) base t u o.type e i ht hu hi hz hsize hby v n xs hown s h63 hbytes hbase
 unfold Oper.wp execOp
 simp only [ho, resolve, invoke, builtin, Sem.run_bind, Sem.run_pure, Result.andThen_ok, List.map_toArray, List.map_cons, List.map_nil, hs, hx, hr]
 exact hK _ _ (h v' w' h2 h3 h4)
structure KeepsBut (b : Nat) (v : Value) (w w' : World) : Prop where
 os : w'.os = w.os
 tape : w'.tape = w.tape
 output : w'.output = w.output
 size : w.heap.size <= w'.heap.size
 same : ∀ k, k < w.heap.size -> k ≠ b -> v.ownBlock ≠ some k -> w'.heap[k]? = w.heap[k]?
set_option maxHeartbeats 2000000 in
set_option maxRecDepth 100000 in
theorem Bld_WriteString (L : Lays.n166 P ρ) (X : Builder.Extra P ρ) (B b : Nat) (p v : Value) (bs : List Value) (s : ByteArray) (w : World) (hp : p = .pointer none \/ p = .pointer (some ⟨b, 0, none⟩))
  (hB : B <= b) (hbk0 : w.heap[b]? = some (.cells #[p, v] (ρ.t 72) (0, 0))) (hown0 : w.ownsRow B (ρ.t 5) 1 v bs.length bs) (hne : v.ownBlock ≠ some b) (hlen : bs.length + s.size <= 140737488355328) (hBw : B <= w.heap.size) :
  Calls P (ρ.f 166) #[.pointer (some ⟨b, 0, none⟩), .string s] w fun e w' => e = .returned (.tuple #[.int .i64 s.size, .nilIface]) /\
   ∃ v', w'.heap[b]? = some (.cells #[.pointer (some ⟨b, 0, none⟩), v'] (ρ.t 72) (0, 0)) /\ w'.ownsRow B (ρ.t 5) 1 v' (bs ++ Lib.strCells s).length (bs ++ Lib.strCells s) /\ v'.ownBlock ≠ some b /\ (v'.ownBlock = v.ownBlock \/ ∀ k, v'.ownBlock = some k -> w.heap.size <= k) /\ KeepsBut b v w w' := by
 obtain ⟨i0, hi, hz0, hz1, hz2⟩ := info_parts X.infoByte
 have mixed := L.mixed
 have t72 := L.t72; have a72 := L.a72; have z72 := L.z72; have v72 := L.v72; have u72 := run_underlying L.t72
 have t70 := L.t70; have a70 := L.a70; have z70 := L.z70; have v70 := L.v70; have u70 := run_underlying L.t70
 have t37 := L.t37; have a37 := L.a37; have z37 := L.z37; have v37 := L.v37; have u37 := run_underlying L.t37
 have t3 := L.t3; have a3 := L.a3; have z3 := L.z3; have v3 := L.v3; have u3 := run_underlying L.t3
 have t9 := L.t9; have a9 := L.a9; have z9 := L.z9; have v9 := L.v9; have u9 := run_underlying L.t9
 have t4 := L.t4; have a4 := L.a4; have z4 := L.z4; have v4 := L.v4; have u4 := run_underlying L.t4
 have t164 := L.t164; have a164 := L.a164; have z164 := L.z164; have v164 := L.v164; have u164 := run_underlying L.t164
 have t5 := X.t5; have a5 := X.a5; have z5 := X.z5; have v5 := X.v5; have u5 := run_underlying X.t5
 have e240 : ∀ args w, (callFunc (ρ.f 240) args).run P w = .ok (.enter (ρ.f 240) args) w := enters_of L.f240 (by kernel_rfl) rfl
 have hlt0 : b < w.heap.size := by
  rcases Nat.lt_or_ge b w.heap.size with h' | h'
  ·exact h'
  ·simp [Array.getElem?_eq_none h'] at hbk0
 -- what copyCheck leaves
 have hcc : Calls P (ρ.f 240) #[.pointer (some ⟨b, 0, none⟩)] w fun e w1 => e = .returned (.tuple #[]) /\ w1.heap[b]? = some (.cells #[.pointer (some ⟨b, 0, none⟩), v] (ρ.t 72) (0, 0)) /\ w1.ownsRow B (ρ.t 5) 1 v bs.length bs /\ KeepsBut b v w w1 := by
  rcases hp with rfl | rfl
  ·have hA : Lib.BuilderAt (ρ.t 72) (ρ.t 5) B b (.pointer none) bs w := ⟨hB, v, hbk0, hown0, hne⟩
   refine (Any.Builder_copyCheck_fresh { L with } X.toX72 b w hA.cell0 hA.shape hA.frozen0).mono ?_
   rintro e w1 ⟨rfl, rfl⟩
   refine ⟨rfl, ?_, ?_, rfl, rfl, rfl, by simp [World.setCell], fun k hk hkb _ => Below.heap_setCell _ _ _ _ (fun e => hkb e)⟩
   ·simp [World.setCell, Array.getElem?_modify, hbk0]
   ·exact hown0.kept (row := some b) ⟨rfl, rfl, rfl, by simp [World.setCell], fun k _ hk => Below.heap_setCell _ _ _ _ (fun e => hk (by simp [e]))⟩ (Or.inr hne)
  ·have hA : Lib.BuilderAt (ρ.t 72) (ρ.t 5) B b (.pointer (some ⟨b, 0, none⟩)) bs w := ⟨hB, v, hbk0, hown0, hne⟩
   refine (Any.Builder_copyCheck_used { L with } X.toX72 b w hA.cell0).mono ?_
   rintro e w1 ⟨rfl, rfl⟩
   exact ⟨rfl, hbk0, hown0, rfl, rfl, rfl, Nat.le_refl _, fun _ _ _ _ => rfl⟩
 go_enter L.f166, Body.n166_ntmps ρ
 go_wp2_with (go_at_fn (ρ.f 240); refine hcc.mono ?_)
 rintro e w1 ⟨rfl, hbk, hown, hk1⟩
 have c0 : w1.cell? ⟨b, 0, none⟩ = some (.pointer (some ⟨b, 0, none⟩)) := by rw [Lib.cell_of_heap hbk]; rfl
 have c1 : w1.cell? ⟨b, 1, none⟩ = some v := by rw [Lib.cell_of_heap hbk]; rfl
 go_wp2_with (at_builtin; refine wpList_append_str rfl _ _ (ρ.t 37) (ρ.t 9) rfl B (ρ.t 5) i0 L.t37 L.t9 hi hz0 hz1 hz2 _ _ _ rfl hown s rfl ?c3 ?c4 ?c5 ?_)
 case c3 => unfold maxLen; omega
 case c4 => omega
 case c5 => have := hk1.size; omega
 intro v' w2 hown' hgrow hwhere
 have hlt : b < w1.heap.size := Nat.lt_of_lt_of_le hlt0 hk1.size
 have hb2 : w2.heap[b]? = some (.cells #[.pointer (some ⟨b, 0, none⟩), v] (ρ.t 72) (0, 0)) := by
  rw [hgrow.block b hlt (fun e => hne e.symm)]
  exact hbk
 have d0 : w2.cell? ⟨b, 0, none⟩ = some (.pointer (some ⟨b, 0, none⟩)) := by rw [Lib.cell_of_heap hb2]; rfl
 have d1 : w2.cell? ⟨b, 1, none⟩ = some v := by rw [Lib.cell_of_heap hb2]; rfl
 have f1 : w2.frozen? ⟨b, 1, none⟩ = false := Lib.frozen_of_heap hb2 1
 obtain ⟨ao, n', cap, rfl⟩ : ∃ ao n' cap, v' = .slice ao n' cap := by
  rcases hown'.2 with ⟨hv, _⟩ | ⟨g, cap, cur, hv, _⟩
  ·exact ⟨_, _, _, hv⟩
  ·exact ⟨_, _, _, hv⟩
 go_wp2
 go_ret2
 refine ⟨rfl, ?_⟩
 have hne' := Lib.ownBlock_ne hown' hb2 X.neB5
 refine ⟨_, ?_, ?_, hne', ?_, ?_⟩
 ·simp [World.setCell, Array.getElem?_modify, hb2]
 ·rw [List.length_append, Lib.strCells_length]
  exact hown'.kept (row := some b) ⟨rfl, rfl, rfl, by simp [World.setCell], fun k _ hk => Below.heap_setCell _ _ _ _ (fun e => hk (by simp [e]))⟩ (Or.inr hne')
 ·exact hwhere.imp_right fun h k hk => Nat.le_trans hk1.size (h k hk)
 refine ⟨hgrow.os.trans hk1.os, hgrow.tape.trans hk1.tape, hgrow.output.trans hk1.output, ?_, fun k hk hkb hkv => ?_⟩
 ·have := hk1.size
  have := hgrow.size
  simp [World.setCell]
  omega
 ·rw [Below.heap_setCell _ _ _ _ (fun e => hkb e), hgrow.block k (Nat.lt_of_lt_of_le hk hk1.size) (fun e => hkv e.symm)]
  exact hk1.same k hk hkb hkv
set_option maxHeartbeats 1000000 in
set_option maxRecDepth 100000 in
theorem Bld_String (L : Lays.n169 P ρ) (X : Builder.Extra P ρ) (B b : Nat) (p v : Value) (l : List UInt8) (w : World) (hbk : w.heap[b]? = some (.cells #[p, v] (ρ.t 72) (0, 0))) (hown : w.ownsRow B (ρ.t 5) 1 v (Lib.byteCells l).length (Lib.byteCells l)) (h0 : l ≠ []) :
  Calls P (ρ.f 169) #[.pointer (some ⟨b, 0, none⟩)] w fun e w' => e = .returned (.string ⟨l.toArray⟩) /\ KeepsBut b v w w' := by
 have hl0 : l.length ≠ 0 := by simpa using h0
 rw [Lib.byteCells_length] at hown
 obtain ⟨g, cap, cur, rfl, hbg, hg, hnc, hcm, hcs, htake⟩ : ∃ g cap cur, v = .slice (some ⟨g, 0, none⟩) l.length cap /\ B <= g /\ w.heap[g]? = some (.cells cur (ρ.t 5) (0, 0)) /\ l.length <= cap /\ cap <= maxLen /\ cur.size = cap * 1 /\ cur.toList.take (l.length * 1) = Lib.byteCells l := by
  rcases hown.2 with ⟨_, hz⟩ | ⟨g, cap, cur, hv, r⟩
  ·exact absurd hz hl0
  ·exact ⟨g, cap, cur, hv, r⟩
 have c1 : w.drew.cell? ⟨b, 1, none⟩ = some (.slice (some ⟨g, 0, none⟩) l.length cap) := by
  have : w.drew.heap[b]? = some (.cells #[p, .slice (some ⟨g, 0, none⟩) l.length cap] (ρ.t 72) (0, 0)) := hbk
  rw [Lib.cell_of_heap this]; rfl
 have hSD : (Builtin.unsafeSliceData_ #[(ρ.t 37)] (ρ.t 127) #[.slice (some ⟨g, 0, none⟩) l.length cap]).run P w.drew = .ok (.pointer (some ⟨g, 0, none⟩)) w.drew :=
  Lib.run_unsafeSliceData_row _ _ _ _ _ _ (by omega)
 have hUS : (Builtin.unsafeString_ #[(ρ.t 127), (ρ.t 3)] (ρ.t 9) #[.pointer (some ⟨g, 0, none⟩), .int .i64 l.length]).run P w.drew = .ok (.string ⟨l.toArray⟩) (w.drew.freeze ⟨g, 0, none⟩ l.length) := by
  refine Lib.run_unsafeString_row w.drew (ρ.t 127) (ρ.t 3) (ρ.t 9) (ρ.t 5) L.t127 X.cellsByte g cur.size (by have hg' : w.drew.heap[g]? = some (.cells cur (ρ.t 5) (0, 0)) := hg; simp [World.shape?, hg']) l h0 (by omega) (by unfold maxLen at hcm; omega) ?_
  intro j x hx
  have := hown.cells (g := g) rfl j (.int .u8 x.toNat) (by simp [Lib.byteCells, hx])
  exact this
 have mixed := L.mixed
 have t72 := L.t72; have a72 := L.a72; have z72 := L.z72; have v72 := L.v72; have u72 := run_underlying L.t72
 have t70 := L.t70; have a70 := L.a70; have z70 := L.z70; have v70 := L.v70; have u70 := run_underlying L.t70
 have t37 := L.t37; have a37 := L.a37; have z37 := L.z37; have v37 := L.v37; have u37 := run_underlying L.t37
 have t127 := L.t127; have a127 := L.a127; have z127 := L.z127; have v127 := L.v127; have u127 := run_underlying L.t127
 have t3 := L.t3; have a3 := L.a3; have z3 := L.z3; have v3 := L.v3; have u3 := run_underlying L.t3
 have t9 := L.t9; have a9 := L.a9; have z9 := L.z9; have v9 := L.v9; have u9 := run_underlying L.t9
 have t5 := X.t5; have a5 := X.a5; have z5 := X.z5; have v5 := X.v5; have u5 := run_underlying X.t5
 have hkb : KeepsBut b (.slice (some ⟨g, 0, none⟩) l.length cap) w (w.drew.freeze ⟨g, 0, none⟩ l.length) := by
  have hb := Lib.below_freeze (Below.drew (Below.refl 0 w)) (p := ⟨g, 0, none⟩) (Nat.zero_le _) l.length
  refine ⟨hb.os, hb.tape, hb.output, hb.size, fun k hk _ hkv => ?_⟩
  have hkg : k ≠ g := fun e => hkv (by rw [e]; rfl)
  unfold World.freeze
  rw [if_neg hl0]
  show (w.heap.modify g _)[k]? = w.heap[k]?
  rw [Array.getElem?_modify, if_neg (fun e => hkg e.symm)]
 go_enter L.f169, Body.n169_ntmps ρ
 go_wp2
 go_region_o
 all_goals (go_wp2; go_ret; exact ⟨rfl, hkb⟩)
end Go.Proofs
namespace Go.Proofs.YtlojijllmadnoaaGreatDoor
open Go.Ev Go.RowKit
theorem lay_nil {a : Act} : lay [] a = a := by
 obtain ⟨t, d⟩ := a
 unfold lay
 simp
theorem mixed_ok : Tryz.prog.follows .mixedOrders = true := by kernel_rfl
section
variable {F I : Nat -> Prop} {Z : Zy} {st : St} {a : Act} {w0 w : World} {l k : Nat} {Q : Exit -> Act -> World -> Prop}
theorem piece {ro : Option Nat} {c : Code} {R : Ex -> St -> Prop} (hG : GMet Z.gl) (hok : okCode 39 c = true) (hrd : rdCode c = true) (h : To w0 F I Z 39 st a w) (hw : WP CX c st R)
  (hQ : ∀ s a' w', R .normal s -> To w0 F I Z 39 s a' w' -> Q .normal a' w') (hR : ∀ e s, R e s -> e = .normal) : c.wpIn (fw ro) k Tryz.prog Q a w := by
 obtain ⟨n, e, s, he, hr⟩ := hw
 have he1 := hR e s hr
 subst he1
 have := exec_in (Q := Q) (callN_all (XL_ok hG) good_ok CX.mu n) mixed_ok [] ro k n hok hrd h he (fun a' w' hto => by rw [lay_nil]; exact hQ s a' w' hr hto)
 rwa [lay_nil] at this
theorem to_bool {b : Bool} {x : Nat} (h : To w0 F I Z 39 st a w) (hv : st.tmp x = .sv (.bool b)) : a.eval (.tmp x) = .bool b := by
 obtain ⟨β, h⟩ := h
 have := h.eval (.tmp x)
 rw [show st.eval (.tmp x) = .sv (.bool b) from hv] at this
 exact rep_bool this
theorem round_w {c5 c7 c8 c9 : Code} {ops : Array Oper} {T : St -> Prop} (hG : GMet Z.gl) (hok : okCode 39 (.seq c5 (.seq c7 c8)) = true) (hrd : rdCode (.seq c5 (.seq c7 c8)) = true)
  (hd : ops.toList.all (fun o => match o.dst with | some d => decide (d < 39) | none => true) = true) (hnd : ops.all (fun o => notDefer o.op) = true) (hsz : ops.size = 6)
  (h : To w0 F I Z 39 st a w)
  (hw : WP CX c5 st fun e s => e = .normal /\ WP CX c7 s fun e s => e = .normal /\ s.tmp 20 = .sv (.bool false) /\ WP CX c8 s fun e s => e = .normal /\ s.tmp 31 = .sv (.bool false) /\ WO CX false ops (ops.toList.take 5) s T)
  {K : Act -> World -> Prop} (hlast : ∀ (Q' : Exit -> Act -> World -> Prop), (∀ a w, K a w -> Q' .normal a w) -> ∀ s a' w', T s -> To w0 F I Z 39 s a' w' -> wpOpsIn (fw (some l)) k Tryz.prog ops Q' (List.range' 5 1) a' w') (hK : ∀ a w, K a w -> Q .normal a w) :
  (Code.block 1 (.seq c5 (.block 2 (.seq c7 (.cond (.tmp 20) .skip (.seq c8 (.cond (.tmp 31) c9 (.region 6 ops false)))))))).wpIn (fw (some l)) k Tryz.prog Q a w := by
 simp only [okCode, Bool.and_eq_true] at hok
 simp only [rdCode, Bool.and_eq_true] at hrd
 refine wpIn_block (wpIn_seq (piece hG hok.1 hrd.1 h hw (fun s a1 w1 hr h1 => ?_) (fun e s hr => hr.1)))
 obtain ⟨-, hw⟩ := hr
 refine wpIn_block (wpIn_seq (piece hG hok.2.1 hrd.2.1 h1 hw (fun s a1 w1 hr h1 => ?_) (fun e s hr => hr.1)))
 obtain ⟨-, e20, hw⟩ := hr
 refine wpIn_cond (t := false) (to_bool h1 e20) ?_
 refine wpIn_seq (piece hG hok.2.2 hrd.2.2 h1 hw (fun s a1 w1 hr h1 => ?_) (fun e s hr => hr.1))
 obtain ⟨-, e31, hw⟩ := hr
 refine wpIn_cond (t := false) (to_bool h1 e31) ?_
 obtain ⟨n, s1, he, ht⟩ := hw
 refine wpIn_region ?_
 have hd' : ∀ o ∈ ops.toList, ∀ d, o.dst = some d -> d < 39 := fun o ho d hod => by
  have := List.all_eq_true.1 hd o ho
  rw [hod] at this
  exact of_decide_eq_true this
 have hnd' : ∀ o ∈ ops, notDefer o.op = true := by
  rw [Array.all_eq_true'] at hnd
  exact hnd
 rw [List.range_eq_range']
 have key := pre_in (Q := Exit.inBlock 2 (Exit.inBlock 1 Q)) (D := []) (ro := some l) (n := k) (callN_all (XL_ok hG) good_ok CX.mu n) (mu := CX.mu) hd' hnd' (m := 5) (k := 0) he (by omega) h1 (fun a' w' hto => by
  rw [lay_nil, hsz]
  exact hlast _ (fun a w ha => hK a w ha) s1 a' w' ht hto)
 rwa [lay_nil] at key
theorem round_n {c5 c7 c : Code} (hG : GMet Z.gl) (hok : okCode 39 (.seq c5 c7) = true) (hrd : rdCode (.seq c5 c7) = true) (h : To w0 F I Z 39 st a w) {T : St -> Prop}
  (hw : WP CX c5 st fun e s => e = .normal /\ WP CX c7 s fun e s => e = .normal /\ s.tmp 20 = .sv (.bool true) /\ T s)
  (hK : ∀ s a w, T s -> To w0 F I Z 39 s a w -> Q .normal a w) :
  (Code.block 1 (.seq c5 (.block 2 (.seq c7 (.cond (.tmp 20) .skip c))))).wpIn (fw (some l)) k Tryz.prog Q a w := by
 simp only [okCode, Bool.and_eq_true] at hok
 simp only [rdCode, Bool.and_eq_true] at hrd
 refine wpIn_block (wpIn_seq (piece hG hok.1 hrd.1 h hw (fun s a1 w1 hr h1 => ?_) (fun e s hr => hr.1)))
 obtain ⟨-, hw⟩ := hr
 refine wpIn_block (wpIn_seq (piece hG hok.2 hrd.2 h1 hw (fun s a1 w1 hr h1 => ?_) (fun e s hr => hr.1)))
 obtain ⟨-, e20, ht⟩ := hr
 refine wpIn_cond (t := true) (to_bool h1 e20) ?_
 exact wpIn_skip (hK s a1 w1 ht h1)
end
end Go.Proofs.YtlojijllmadnoaaGreatDoor
namespace Go.Proofs.YtlojijllmadnoaaGreatDoor
open Go.Ev Go.RowKit
theorem owns_same {w w' : World} {base n size : Nat} {e : TypeId} {v : Value} {xs : List Value} (h : w.ownsRow base e size v n xs) (hs : ∀ j, v.ownBlock = some j -> w'.heap[j]? = w.heap[j]?) : w'.ownsRow base e size v n xs := by
 refine ⟨h.1, ?_⟩
 rcases h.2 with h2 | ⟨g, cap, cur, rfl, hbg, hg, hr⟩
 ·exact .inl h2
 ·exact .inr ⟨g, cap, cur, rfl, hbg, (hs g rfl).trans hg, hr⟩
theorem owns_lt {w : World} {base n size : Nat} {e : TypeId} {v : Value} {xs : List Value} (h : w.ownsRow base e size v n xs) {j : Nat} (hj : v.ownBlock = some j) : j < w.heap.size /\ base <= j := by
 rcases h.2 with ⟨rfl, _⟩ | ⟨g, cap, cur, rfl, hbg, hg, hr⟩
 ·cases hj
 ·cases hj
  exact ⟨(Array.getElem?_eq_some_iff.1 hg).1, hbg⟩
def outK : Nat -> List UInt8
 | 0 => []
 | 1 => [111, 107, 10]
 | _ => [111, 107, 10, 55, 47, 51, 10]
def esK : Nat -> List Ent
 | 0 => []
 | _ => entA
structure RunS (bb : Nat) (st : St) (es : List Ent) : Prop where
 box : st.hob 2000003 1 = some [.ptr 2000007 1 0]
 sess : SessR st 2000007 1 es 6
 up3 : st.up 3 = .ptr 2000003 1 0
 up4 : st.up 4 = .sv (.con (.pointer (some ⟨bb, 0, none⟩)))
 gen3 : 1 < st.gen 2000003
theorem RunS.same {bb : Nat} {st s : St} {es : List Ent} (h : RunS bb st es) (h1 : s.hob = st.hob) (h2 : s.obj = st.obj) (h3 : s.gen = st.gen) (h4 : s.up = st.up) : RunS bb s es :=
 ⟨by rw [h1]; exact h.box, h.sess.of (by rw [h1]) (fun _ => by rw [h2]) (by rw [h3]; exact Nat.le_refl _), by rw [h4]; exact h.up3, by rw [h4]; exact h.up4, by rw [h3]; exact h.gen3⟩
theorem cln_keep {st : St} {v : TV} {d g : Nat} (h : v.id = some (d, g)) (ho : (st.obj d g).isSome = true) : v.cln st = v := by
 unfold TV.cln
 rw [h]
 dsimp only
 rw [if_pos ho]
theorem RunS.mk' {bb : Nat} {st : St} {es : List Ent} (hbox : st.hob 2000003 1 = some [.ptr 2000007 1 0]) (hsess : SessR st 2000007 1 es 6) (hgen : 1 < st.gen 2000003) {tm tu : Nat -> TV} (hob : ∀ d g ts, st.hob d g = some ts -> st.obj d g = some []) (h3 : tu 3 = .ptr 2000003 1 0) (h4 : tu 4 = .sv (.con (.pointer (some ⟨bb, 0, none⟩)))) : RunS bb (st.with tm tu) es := by
 have o3 := hob _ _ _ hbox
 have o7 : st.obj 2000007 1 = some [] := by
  rcases hsess.row with ⟨_, e⟩ | ⟨g1, _, e, _⟩
  ·exact hob _ _ _ e
  ·exact hob _ _ _ e
 refine ⟨?_, ⟨hsess.ob, ?_⟩, ?_, ?_, hgen⟩
 ·show Option.map (fun ts => ts.map (·.cln st)) (st.hob 2000003 1) = _
  rw [hbox]
  show some [TV.cln st (.ptr 2000007 1 0)] = _
  rw [cln_keep (d := 2000007) (g := 1) rfl (by rw [o7]; rfl)]
 ·rcases hsess.row with ⟨e0, e⟩ | ⟨g1, hg, e, ho⟩
  ·refine .inl ⟨e0, ?_⟩
   show Option.map (fun ts => ts.map (·.cln st)) (st.hob 2000007 1) = _
   rw [e]
   rfl
  ·refine .inr ⟨g1, hg, ?_, ho⟩
   show Option.map (fun ts => ts.map (·.cln st)) (st.hob 2000007 1) = _
   rw [e]
   show some [TV.cln st (.ref 25 g1 2 0 es.length), _] = _
   rw [cln_keep (d := 25) (g := g1) rfl (by rw [ho]; rfl)]
   rfl
 ·show (tu 3).cln st = _
  rw [h3]
  exact cln_keep (d := 2000003) (g := 1) rfl (by rw [o3]; rfl)
 ·show (tu 4).cln st = _
  rw [h4]
  rfl
theorem RunS.with {bb : Nat} {st : St} {es : List Ent} (h : RunS bb st es) {tm tu : Nat -> TV} (hob : ∀ d g ts, st.hob d g = some ts -> st.obj d g = some []) (h3 : tu 3 = st.up 3) (h4 : tu 4 = st.up 4) : RunS bb (st.with tm tu) es :=
 RunS.mk' h.box h.sess h.gen3 hob (h3.trans h.up3) (h4.trans h.up4)
def ForB (bb : Nat) (v : Value) (j : Nat) : Prop := (bb <= j /\ j <= bb + 5) \/ v.ownBlock = some j
def recB (T0 : Array Value) (fn bb : Nat) (assign body : Code) (s : LoopState) : Loop := { state := s, pending := none, fn, tmps := T0, params := #[11], assign, body, defers := bb + 4 }
structure Side (w0 : World) (T0 : Array Value) (fn bb : Nat) (assign body : Code) (s : LoopState) (p v : Value) (out : List UInt8) (W : World) : Prop where
 base : Below w0.heap.size w0 W
 rc : W.heap[bb + 5]? = some (.loop (recB T0 fn bb assign body s))
 dfr : W.heap[bb + 4]? = some (.deferred (some []))
 bld : W.heap[bb]? = some (.cells #[p, v] 65 (0, 0))
 own : W.ownsRow w0.heap.size 5 1 v (Lib.byteCells out).length (Lib.byteCells out)
section
variable {G : List (Nat × Value)} {w0 W W' : World} {T0 : Array Value} {fn bb : Nat} {assign body : Code} {s s' : LoopState} {p v : Value} {out : List UInt8}
theorem Side.same (h : Side w0 T0 fn bb assign body s p v out W) (hb : Below w0.heap.size W W') (hs : ∀ j, ForB bb v j -> W'.heap[j]? = W.heap[j]?) : Side w0 T0 fn bb assign body s p v out W' :=
 ⟨h.base.trans hb, (hs _ (.inl ⟨by omega, by omega⟩)).trans h.rc, (hs _ (.inl ⟨by omega, by omega⟩)).trans h.dfr, (hs _ (.inl ⟨by omega, by omega⟩)).trans h.bld, owns_same h.own fun j hj => hs j (.inr hj)⟩
theorem Side.turn (h : Side w0 T0 fn bb assign body s p v out W) (hle : w0.heap.size <= bb) (hv : ∀ j, v.ownBlock = some j -> bb + 6 <= j) : Side w0 T0 fn bb assign body s' p v out (W.putObj (bb + 5) (.loop (recB T0 fn bb assign body s'))) := by
 have hlt : bb + 5 < W.heap.size := (Array.getElem?_eq_some_iff.1 h.rc).1
 refine ⟨h.base.trans ((Below.refl _ W).grown (grownBy_putObj' W _ _) (by omega) (fun k e => by cases e; omega)), World.putObj_heap_same hlt, (World.putObj_heap_other (by omega)).trans h.dfr, (World.putObj_heap_other (by omega)).trans h.bld, owns_same h.own fun j hj => World.putObj_heap_other ?_⟩
 have := hv j hj
 omega
structure RunJ (G : List (Nat × Value)) (w0 : World) (T0 : Array Value) (fn bb : Nat) (assign body : Code) (k : Nat) (W : World) : Prop where
 le : w0.heap.size <= bb
 live : ∃ p v st, (p = .pointer none \/ p = .pointer (some ⟨bb, 0, none⟩)) /\ (∀ j, v.ownBlock = some j -> bb + 6 <= j) /\ Side w0 T0 fn bb assign body .ready p v (outK k) W /\ RunS bb st (esK k) /\ Live G (ForB bb v) w0.heap.size 39 (fun t => T0.getD t undef) st ⟨T0, []⟩ W
theorem far {F I : Nat -> Prop} {Z : Zy} {N : Nat} {β : Nat -> Nat -> Nat} {st : St} {a : Act} {w1 w : World} (h : Rel w1 F I Z N β st a w) (hold : Z.old) {j : Nat} (hj : F j) : w.heap[j]? = w1.heap[j]? := h.ext.block j (h.old j hj) fun hi => (h.imps j hi).2 hold hj
theorem far_below {F I : Nat -> Prop} {Z : Zy} {N L : Nat} {β : Nat -> Nat -> Nat} {st : St} {a : Act} {w1 w : World} (h : Rel w1 F I Z N β st a w) (hI : ∀ k, I k -> L <= k) (hL : L <= w1.heap.size) : Below L w1 w :=
 ⟨h.ext.os, h.ext.tape, h.ext.output, h.ext.size, fun b hb => h.ext.block b (by omega) fun hi => by have := hI b hi; omega⟩
section
variable {G : List (Nat × Value)} {w0 W : World} {T0 : Array Value} {fn bb k : Nat} {body : Code} {ty4 : TypeId} {pos4 : String} {af4 : Array Edge}
theorem ext_T {T0 : Array Value} {t d : Nat} {x : Value} (hd : d < T0.size) : (T0.setIfInBounds d x).getD t undef = if t = d then x else T0.getD t undef := by
 rw [Array.getD_eq_getD_getElem?, Array.getElem?_setIfInBounds]
 split
 ·rename_i h
  subst h
  rw [if_pos rfl]
  simp [hd]
 ·rename_i h
  rw [if_neg fun e => h e.symm, Array.getD_eq_getD_getElem?]
theorem round_in {Q : Ending -> World -> Prop} {x : ByteArray} (hG : GMet G) (hj : RunJ G w0 T0 fn bb (.region 4 #[⟨some 5, .assign (.tmp 11), ty4, pos4, af4, none⟩] false) body k W)
  (hbody : ∀ p v st a w z β, (p = .pointer none \/ p = .pointer (some ⟨bb, 0, none⟩)) -> (∀ j, v.ownBlock = some j -> bb + 6 <= j) -> Side w0 T0 fn bb (.region 4 #[⟨some 5, .assign (.tmp 11), ty4, pos4, af4, none⟩] false) body .busy p v (outK k) w -> RunS bb st (esK k) ->
   st.tmp 3 = .ptr 2000003 1 0 -> st.tmp 4 = .sv (.con (.pointer (some ⟨bb, 0, none⟩))) -> st.tmp 5 = .sv (.str x) -> (∀ j, bb <= j -> j <= bb + 3 -> w.heap[j]? = W.heap[j]?) -> Rel w (ForB bb v) (ownB β st) ⟨z, fun t => T0.getD t undef, True, G⟩ 39 β st a w -> (∀ k, ownB β st k -> w0.heap.size <= k) ->
   body.wpIn (fw (some (bb + 5))) 3 Tryz.prog (roundPost Tryz.prog (bb + 5) Q) a w) :
  RoundIn Fence.wide 3 Tryz.prog (bb + 5) fn ((#[11].zip #[.string x]).foldl (fun tmps (t, a) => tmps.setIfInBounds t a) T0) (.region 4 #[⟨some 5, .assign (.tmp 11), ty4, pos4, af4, none⟩] false) body W Q := by
 refine roundIn_of_wpIn trivial ?_
 rw [show ((#[11].zip #[Value.string x]).foldl (fun tmps (t, a) => tmps.setIfInBounds t a) T0) = T0.setIfInBounds 11 (.string x) by simp]
 obtain ⟨hle, p, v, st, hp, hv6, hs, hr, z, β, hrel, hL⟩ := hj
 have hsz : T0.size = 39 := hrel.size
 have hob : ∀ d g ts, st.hob d g = some ts -> st.obj d g = some [] := fun d g ts h => (hrel.hobs d g ts h).2.1
 obtain ⟨z1, β1, hrel1, hL1⟩ := live_again (C := fun _ => False) (F' := ForB bb v) (w' := W) (y := fun t => T0.getD t undef) (T := T0.setIfInBounds 11 (.string x)) (tm := fun t => if t = 11 then .sv (.str x) else st.up t) (tu := st.up) hrel hs.base.size hL trivial
  (fun _ _ _ _ h _ => h) (fun _ h => h.elim) (Nat.le_refl _) (fun j hj => ⟨hrel.old j hj, fun _ => hj⟩) (by simp [hsz]) (fun t => by
   rw [ext_T (by omega)]
   by_cases h : t = 11
   ·rw [if_pos h, if_pos h]
    exact .str x
   ·rw [if_neg h, if_neg h]
    exact hrel.ups t) hrel.ups
 have hr1 : RunS bb (st.with (fun t => if t = 11 then .sv (.str x) else st.up t) st.up) (esK k) := hr.with hob rfl rfl
 have t11 : (st.with (fun t => if t = 11 then .sv (.str x) else st.up t) st.up).tmp 11 = .sv (.str x) := rfl
 have t3 : (st.with (fun t => if t = 11 then .sv (.str x) else st.up t) st.up).tmp 3 = .ptr 2000003 1 0 := hr1.up3
 have t4 : (st.with (fun t => if t = 11 then .sv (.str x) else st.up t) st.up).tmp 4 = .sv (.con (.pointer (some ⟨bb, 0, none⟩))) := hr1.up4
 generalize st.with (fun t => if t = 11 then .sv (.str x) else st.up t) st.up = st1 at *
 have hw : WP CX (.region 4 #[⟨some 5, .assign (.tmp 11), ty4, pos4, af4, none⟩] false) st1 (fun e s => e = .normal /\ s = st1.put 5 (.sv (.str x))) := by
  repeat (first|simp only [go_sem, t11]|simp (disch := first|exact oa|fail) only [AX, t11]|refine wki ?_|refine wqn ?_|refine vpx [] ?_)
 refine piece (ro := some (bb + 5)) (k := 3) hG (by simp [okCode]) (by simp [rdCode, notDefer]) ⟨β1, hrel1⟩ hw (fun s a' w' hq hto => ?_) (fun e s h => h.1)
 obtain ⟨-, rfl⟩ := hq
 obtain ⟨β2, hrel2⟩ := hto
 have hs2 : Side w0 T0 fn bb (.region 4 #[⟨some 5, .assign (.tmp 11), ty4, pos4, af4, none⟩] false) body .ready p v (outK k) w' := hs.same (far_below hrel2 hL1 hs.base.size) fun j hj => far hrel2 trivial hj
 refine ⟨_, run_beginRound hs2.rc rfl, ?_⟩
 have hr2 : RunS bb (st1.put 5 (.sv (.str x))) (esK k) := hr1.same rfl rfl rfl rfl
 have hdf := hrel2.defers
 obtain ⟨T', D'⟩ := a'
 cases hdf
 obtain ⟨z3, β3, hrel3, hL3⟩ := live_again (C := fun _ => False) (F' := ForB bb v) (w' := w'.putObj (bb + 5) (.loop (recB T0 fn bb (.region 4 #[⟨some 5, .assign (.tmp 11), ty4, pos4, af4, none⟩] false) body .busy))) (y := fun t => T0.getD t undef) (T := T') (tm := (st1.put 5 (.sv (.str x))).tmp) (tu := (st1.put 5 (.sv (.str x))).up) hrel2 hs.base.size hL1 trivial
  (fun j cs ty fz h _ => by
   rw [World.putObj_heap_other]
   ·exact h
   ·rintro rfl
    rw [hs2.rc] at h
    cases h) (fun _ h => h.elim) (by simp) (fun j hj => ⟨by rw [World.putObj_size]; exact Nat.lt_of_lt_of_le (hrel2.old j hj) hrel2.ext.size, fun _ => hj⟩) hrel2.size hrel2.tmps hrel2.ups
 have hob2 : ∀ d g ts, (st1.put 5 (.sv (.str x))).hob d g = some ts -> (st1.put 5 (.sv (.str x))).obj d g = some [] := fun d g ts h => (hrel2.hobs d g ts h).2.1
 have hr3 := hr2.with (tm := (st1.put 5 (.sv (.str x))).tmp) (tu := (st1.put 5 (.sv (.str x))).up) hob2 rfl rfl
 refine hbody p v _ ⟨T', []⟩ _ z3 β3 hp hv6 (hs2.turn hle hv6) hr3 ?_ ?_ rfl (fun j h1 h2 => (World.putObj_heap_other (by omega)).trans (far hrel2 trivial (.inl ⟨h1, by omega⟩))) hrel3 hL3
 ·show (st1.tmp 3).cln _ = _
  rw [t3]
  exact cln_keep (d := 2000003) (g := 1) rfl (by rw [hob2 _ _ _ hr2.box]; rfl)
 ·show (st1.tmp 4).cln _ = _
  rw [t4]
  rfl
end
end
end Go.Proofs.YtlojijllmadnoaaGreatDoor
namespace Go.Proofs.YtlojijllmadnoaaGreatDoor
open Go.Ev Go.RowKit
section
variable {G : List (Nat × Value)} {w0 W : World} {T0 : Array Value} {fn bb k : Nat} {ty4 ty5 : TypeId} {pos4 pos5 : String} {af4 af5 : Array Edge} {c5 c7 c8 c9 : Code} {ops : Array Oper} {tys : Array TypeId} {x : ByteArray} {piece : List UInt8}
theorem done {assign body : Code} {p p' v v' : Value} {s : St} {a a4 : Act} {w w' w4 : World} {z : Nat -> Nat} {β : Nat -> Nat -> Nat} {I : Nat -> Prop} (hle : w0.heap.size <= bb) (hv6 : ∀ j, v.ownBlock = some j -> bb + 6 <= j)
  (hs : Side w0 T0 fn bb assign body .busy p v (outK k) w') (hr : RunS bb s (esK (k + 1))) (hrel : Rel w (ForB bb v) I ⟨z, fun t => T0.getD t undef, True, G⟩ 39 β s a w') (hL : ∀ k, I k -> w0.heap.size <= k) (hsz : w0.heap.size <= w.heap.size)
  (hT : T0.size = 39) (hout : outK (k + 1) = outK k ++ piece) (hsame : ∀ j, bb <= j -> j <= bb + 3 -> w.heap[j]? = W.heap[j]?)
  (hp' : p' = .pointer none \/ p' = .pointer (some ⟨bb, 0, none⟩)) (hb4 : w4.heap[bb]? = some (.cells #[p', v'] 65 (0, 0))) (hown4 : w4.ownsRow w0.heap.size 5 1 v' (Lib.byteCells (outK k) ++ Lib.strCells (bs piece)).length (Lib.byteCells (outK k) ++ Lib.strCells (bs piece)))
  (hwhere : v'.ownBlock = v.ownBlock \/ ∀ k, v'.ownBlock = some k -> w'.heap.size <= k) (hkeep : KeepsBut bb v w' w4) :
  roundPost Tryz.prog (bb + 5) (fun e W' => e = .returned (.bool true) /\ RunJ G w0 T0 fn bb assign body (k + 1) W' /\ ∀ j, bb + 1 <= j -> j <= bb + 3 -> W'.heap[j]? = W.heap[j]?) .normal a4 w4 := by
 have hlt : bb + 5 < w'.heap.size := (Array.getElem?_eq_some_iff.1 hs.rc).1
 have hsz4 := hkeep.size
 have hn : ∀ j, bb < j -> j <= bb + 5 -> w4.heap[j]? = w'.heap[j]? := fun j h1 h2 => hkeep.same j (by omega) (by omega) fun e => by
  have := hv6 _ e
  omega
 have hv6' : ∀ j, v'.ownBlock = some j -> bb + 6 <= j := fun j hj => by
  rcases hwhere with e | e
  ·exact hv6 j (e ▸ hj)
  ·have := e j hj
   omega
 have hbel : Below w0.heap.size w' w4 := ⟨hkeep.os, hkeep.tape, hkeep.output, hkeep.size, fun b hb => hkeep.same b (by have := hs.base.size; omega) (by omega) fun e => by
  have := hv6 _ e
  omega⟩
 have hs4 : Side w0 T0 fn bb assign body .busy p' v' (outK (k + 1)) w4 := by
  refine ⟨hs.base.trans hbel, (hn _ (by omega) (by omega)).trans hs.rc, (hn _ (by omega) (by omega)).trans hs.dfr, hb4, ?_⟩
  rw [hout, Lib.byteCells_append]
  exact hown4
 refine ⟨_, _, run_endRound none hs4.rc, rfl, ⟨hle, p', v', s.with s.up s.up, hp', hv6', hs4.turn hle hv6', hr.with (fun d g ts h => (hrel.hobs d g ts h).2.1) rfl rfl, ?_⟩, fun j h1 h2 => ?_⟩
 ·refine live_again (C := fun j => j = bb \/ v.ownBlock = some j) hrel hsz hL trivial (fun j cs ty fz h hc => ?_) (fun j hj => ?_) (by rw [World.putObj_size]; exact hsz4) (fun j hj => ⟨?_, fun hlt2 => ?_⟩) hT hrel.ups hrel.ups
  ·rw [World.putObj_heap_other, hkeep.same j (Array.getElem?_eq_some_iff.1 h).1 (fun e => hc (.inl e)) (fun e => hc (.inr e))]
   ·exact h
   ·rintro rfl
    rw [hs.rc] at h
    cases h
  ·rcases hj with rfl | hj
   ·exact .inl ⟨by omega, by omega⟩
   ·exact .inr hj
  ·rw [World.putObj_size]
   rcases hj with hj | hj
   ·omega
   ·exact (owns_lt hs4.own hj).1
  ·rcases hj with hj | hj
   ·exact .inl hj
   ·rcases hwhere with e | e
    ·exact .inr (e ▸ hj)
    ·have := e j hj
     omega
 ·rw [World.putObj_heap_other (by omega), hn j (by omega) (by omega), far hrel trivial (.inl ⟨by omega, by omega⟩)]
  exact hsame j (by omega) h2
theorem yield_w (hG : GMet G) (hok : okCode 39 (.seq c5 (.seq c7 c8)) = true) (hrd : rdCode (.seq c5 (.seq c7 c8)) = true)
  (hd : ops.toList.all (fun o => match o.dst with | some d => decide (d < 39) | none => true) = true) (hnd : ops.all (fun o => notDefer o.op) = true) (hsz : ops.size = 6)
  (ho : ops[5]? = some ⟨some 19, .call { callee := .value (.func 38), args := #[.tmp 4, .tmp 18], argTypes := tys }, ty5, pos5, af5, none⟩)
  (hw : ∀ st, RunS bb st (esK k) -> st.tmp 3 = .ptr 2000003 1 0 -> st.tmp 4 = .sv (.con (.pointer (some ⟨bb, 0, none⟩))) -> st.tmp 5 = .sv (.str x) ->
   WP CX c5 st fun e s => e = .normal /\ WP CX c7 s fun e s => e = .normal /\ s.tmp 20 = .sv (.bool false) /\ WP CX c8 s fun e s => e = .normal /\ s.tmp 31 = .sv (.bool false) /\
    WO CX false ops (ops.toList.take 5) s fun s => RunS bb s (esK (k + 1)) /\ s.tmp 4 = .sv (.con (.pointer (some ⟨bb, 0, none⟩))) /\ s.tmp 18 = .sv (.str (bs piece)))
  (hout : outK (k + 1) = outK k ++ piece) (hlen : (outK k).length <= 100) (hlen2 : piece.length <= 100)
  (hj : RunJ G w0 T0 fn bb (.region 4 #[⟨some 5, .assign (.tmp 11), ty4, pos4, af4, none⟩] false) (.block 1 (.seq c5 (.block 2 (.seq c7 (.cond (.tmp 20) .skip (.seq c8 (.cond (.tmp 31) c9 (.region 6 ops false)))))))) k W) :
  YieldAt Fence.wide 3 Tryz.prog (bb + 5) #[.string x] W fun e W' => e = .returned (.bool true) /\ RunJ G w0 T0 fn bb (.region 4 #[⟨some 5, .assign (.tmp 11), ty4, pos4, af4, none⟩] false) (.block 1 (.seq c5 (.block 2 (.seq c7 (.cond (.tmp 20) .skip (.seq c8 (.cond (.tmp 31) c9 (.region 6 ops false)))))))) (k + 1) W' /\ ∀ j, bb + 1 <= j -> j <= bb + 3 -> W'.heap[j]? = W.heap[j]? := by
 obtain ⟨hle, p0, v0, st0, -, -, hs0, -, z0, β0, hrel0, -⟩ := id hj
 have hT : T0.size = 39 := hrel0.size
 refine ⟨fn, _, _, _, run_yield (args := #[.string x]) hs0.rc rfl, round_in hG hj ?_⟩
 clear hs0 hrel0
 generalize hA : (Code.region 4 #[⟨some 5, .assign (.tmp 11), ty4, pos4, af4, none⟩] false) = assign at *
 generalize hB : (Code.block 1 (.seq c5 (.block 2 (.seq c7 (.cond (.tmp 20) .skip (.seq c8 (.cond (.tmp 31) c9 (.region 6 ops false)))))))) = body at *
 intro p v st a w z β hp hv6 hs hr t3 t4 t5 hsame hrel hL
 subst hB
 refine round_w (K := fun a w => roundPost Tryz.prog (bb + 5) _ .normal a w) hG hok hrd hd hnd hsz ⟨β, hrel⟩ (hw st hr t3 t4 t5) ?_ (fun _ _ h => h)
 generalize hB : (Code.block 1 (.seq c5 (.block 2 (.seq c7 (.cond (.tmp 20) .skip (.seq c8 (.cond (.tmp 31) c9 (.region 6 ops false)))))))) = body at *
 intro Q' hQ' s a' w' ht hto
 obtain ⟨hr', u4, u18⟩ := ht
 obtain ⟨β', hrel'⟩ := hto
 rw [show List.range' 5 1 = [5] from rfl, wpOpsIn_cons]
 have hs' : Side w0 T0 fn bb assign body .busy p v (outK k) w' := hs.same (far_below hrel' hL hs.base.size) fun j hj => far hrel' trivial hj
 have e4 : a'.eval (.tmp 4) = .pointer (some ⟨bb, 0, none⟩) := by
  have := hrel'.eval (.tmp 4)
  rw [show s.eval (.tmp 4) = _ from u4] at this
  generalize a'.eval (.tmp 4) = y at this
  cases this
  rfl
 have e18 : a'.eval (.tmp 18) = .string (bs piece) := by
  have := hrel'.eval (.tmp 18)
  rw [show s.eval (.tmp 18) = _ from u18] at this
  exact rep_str this
 have hlt : bb + 5 < w'.heap.size := (Array.getElem?_eq_some_iff.1 hs'.rc).1
 have hcall := Bld_WriteString { Tryz.lays156 with } Tryz.Builder_Extra_156 w0.heap.size bb p v (Lib.byteCells (outK k)) (bs piece) w' hp hle hs'.bld hs'.own (fun e => by have := hv6 _ e; omega) (by rw [Lib.byteCells_length, bs_size]; omega) hs'.base.size
 have key := callI_in (D := []) (ro := some (bb + 5)) (n := 3) (Q := Q') (K := wpOpsIn (fw (some (bb + 5))) 3 Tryz.prog ops Q' []) (a := a') (w := w') ho rfl (.inl ⟨enters_of (fn := Tryz.f38) (c := (Tryz.f38).body.get!) (by kernel_rfl) (by kernel_rfl) (by kernel_rfl), by
  rw [show (#[Operand.tmp 4, Operand.tmp 18].map a'.eval ++ #[]) = #[.pointer (some ⟨bb, 0, none⟩), .string (bs piece)] by simp [e4, e18]]
  refine Calls.mono hcall ?_
  rintro e w4 ⟨rfl, v', hb4, hown4, hne4, hwhere, hkeep⟩
  refine ⟨_, rfl, hQ' _ _ ?_⟩
  exact done hle hv6 hs' hr' hrel' hL hs.base.size hT hout hsame (.inr rfl) hb4 hown4 hwhere hkeep⟩)
 rwa [lay_nil] at key
theorem yield_n {c : Code} (hG : GMet G) (hok : okCode 39 (.seq c5 c7) = true) (hrd : rdCode (.seq c5 c7) = true)
  (hw : ∀ st, RunS bb st (esK k) -> st.tmp 3 = .ptr 2000003 1 0 -> st.tmp 4 = .sv (.con (.pointer (some ⟨bb, 0, none⟩))) -> st.tmp 5 = .sv (.str x) ->
   WP CX c5 st fun e s => e = .normal /\ WP CX c7 s fun e s => e = .normal /\ s.tmp 20 = .sv (.bool true) /\ RunS bb s (esK (k + 1)))
  (hout : outK (k + 1) = outK k)
  (hj : RunJ G w0 T0 fn bb (.region 4 #[⟨some 5, .assign (.tmp 11), ty4, pos4, af4, none⟩] false) (.block 1 (.seq c5 (.block 2 (.seq c7 (.cond (.tmp 20) .skip c))))) k W) :
  YieldAt Fence.wide 3 Tryz.prog (bb + 5) #[.string x] W fun e W' => e = .returned (.bool true) /\ RunJ G w0 T0 fn bb (.region 4 #[⟨some 5, .assign (.tmp 11), ty4, pos4, af4, none⟩] false) (.block 1 (.seq c5 (.block 2 (.seq c7 (.cond (.tmp 20) .skip c))))) (k + 1) W' /\ ∀ j, bb + 1 <= j -> j <= bb + 3 -> W'.heap[j]? = W.heap[j]? := by
 obtain ⟨hle, p0, v0, st0, -, -, hs0, -, z0, β0, hrel0, -⟩ := id hj
 have hT : T0.size = 39 := hrel0.size
 refine ⟨fn, _, _, _, run_yield (args := #[.string x]) hs0.rc rfl, round_in hG hj ?_⟩
 clear hs0 hrel0
 generalize hA : (Code.region 4 #[⟨some 5, .assign (.tmp 11), ty4, pos4, af4, none⟩] false) = assign at *
 generalize hB : (Code.block 1 (.seq c5 (.block 2 (.seq c7 (.cond (.tmp 20) .skip c))))) = body at *
 intro p v st a w z β hp hv6 hs hr t3 t4 t5 hsame hrel hL
 subst hB
 refine round_n hG hok hrd ⟨β, hrel⟩ (hw st hr t3 t4 t5) ?_
 generalize hB : (Code.block 1 (.seq c5 (.block 2 (.seq c7 (.cond (.tmp 20) .skip c))))) = body at *
 intro s a' w' hr' hto
 obtain ⟨β', hrel'⟩ := hto
 have hs' : Side w0 T0 fn bb assign body .busy p v (outK k) w' := hs.same (far_below hrel' hL hs.base.size) fun j hj => far hrel' trivial hj
 refine done (piece := []) hle hv6 hs' hr' hrel' hL hs.base.size hT (by rw [hout, List.append_nil]) hsame hp hs'.bld ?_ (.inl rfl) ⟨rfl, rfl, rfl, Nat.le_refl _, fun _ _ _ _ => rfl⟩
 rw [show Lib.strCells (bs []) = [] from rfl, List.append_nil]
 exact hs'.own
end
end Go.Proofs.YtlojijllmadnoaaGreatDoor
namespace Go.Proofs.YtlojijllmadnoaaGreatDoor
open Go.Ev Go.RowKit
section
variable {P : Program} {D : List Deferred} {ro : Option Nat} {n : Nat} {Q : Exit -> Act -> World -> Prop} {K : Act -> World -> Prop} {ops : Array Oper} {a : Act} {w w1 : World}
theorem hand_in {i : Nat} {o : Oper} {v : Value} (ho : ops[i]? = some o) (hg : o.guard = none) (hd : notDefer o.op = true) (he : (execOp a.eval o).run P w = .ok (.value v) w1) (k : K (lay D (a.put o.dst v)) w1) : wpOpIn (fw ro) n P ops Q i K (lay D a) w := by
 unfold wpOpIn
 rw [ho]
 dsimp only
 rw [if_pos (by simp [Region.wanted, hg])]
 refine op_in (Q := fun _ _ _ => False) (K := fun a w => K (lay D a) w) hd (fun _ _ h => h) (fun _ _ _ h => h.elim) (fun _ _ h => h) ?_
 unfold Oper.wp
 rw [he]
 exact k
theorem hand_skip {i : Nat} {o : Oper} (ho : ops[i]? = some o) (hg : o.guard = none) (hd : notDefer o.op = true) (hdst : o.dst = none) (he : (execOp a.eval o).run P w = .ok .skip w1) (k : K (lay D a) w1) : wpOpIn (fw ro) n P ops Q i K (lay D a) w := by
 unfold wpOpIn
 rw [ho]
 dsimp only
 rw [if_pos (by simp [Region.wanted, hg])]
 refine op_in (Q := fun _ _ _ => False) (K := fun a w => K (lay D a) w) hd (fun _ _ h => h) (fun _ _ _ h => h.elim) (fun _ _ h => h) ?_
 unfold Oper.wp
 rw [he]
 show K (lay D (a.put o.dst undef)) w1
 rw [hdst]
 exact k
end
theorem pre_wo {ro : Option Nat} {n m : Nat} {Q : Exit -> Act -> World -> Prop} {ops : Array Oper} {F I : Nat -> Prop} {Z : Zy} {st : St} {a : Act} {w0 w : World} {T : St -> Prop} (hG : GMet Z.gl)
  (hd : ops.toList.all (fun o => match o.dst with | some d => decide (d < 39) | none => true) = true) (hnd : ops.all (fun o => notDefer o.op) = true) (hle : m <= ops.size)
  (h : To w0 F I Z 39 st a w) (hw : WO CX false ops (ops.toList.take m) st T) (k : ∀ s a' w', T s -> To w0 F I Z 39 s a' w' -> wpOpsIn (fw ro) n Tryz.prog ops Q (List.range' m (ops.size - m)) a' w') : wpOpsIn (fw ro) n Tryz.prog ops Q (List.range ops.size) a w := by
 obtain ⟨N, s1, he, ht⟩ := hw
 have hd' : ∀ o ∈ ops.toList, ∀ d, o.dst = some d -> d < 39 := fun o ho d hod => by
  have := List.all_eq_true.1 hd o ho
  rw [hod] at this
  exact of_decide_eq_true this
 have hnd' : ∀ o ∈ ops, notDefer o.op = true := by
  rw [Array.all_eq_true'] at hnd
  exact hnd
 rw [List.range_eq_range', <- lay_nil (a := a)]
 refine pre_in (D := []) (callN_all (XL_ok hG) good_ok CX.mu N) (mu := CX.mu) hd' hnd' (m := m) (k := 0) he (by omega) h (fun a' w' hto => ?_)
 rw [lay_nil, Nat.zero_add]
 exact k s1 a' w' ht hto
theorem range_go {P : Program} {n : Nat} {g : Operand} {ps : Array Tmp} {assign body : Code} {Q : Exit -> Act -> World -> Prop} {a : Act} {w : World} {gf : Nat} {lb : Array Value} (hg : a.eval g = .func (.func gf) #[] lb) (eg : Enters P gf)
  (h : ∀ fn W1, W1 = (w.alloc (.deferred (some []))).alloc (.loop { state := .ready, pending := none, fn, tmps := a.tmps, params := ps, assign, body, defers := w.heap.size }) ->
   CallsIn Fence.wide (n - 1) P gf (#[.func (.yield (w.heap.size + 1)) #[] #[]] ++ lb) W1 (rangePost Fence.wide n P (w.heap.size + 1) Q { a with defers := [{ target := .collected w.heap.size, args := #[] }] ++ a.defers })) :
  (Code.rangeFunc g ps assign body).wpIn Fence.wide n P Q a w := by
 refine wpIn_rangeFunc ?_
 intro fn hfn
 rw [show Fence.wide.round = none from rfl]
 obtain ⟨W1, hW1⟩ : ∃ W1, W1 = (w.alloc (.deferred (some []))).alloc (.loop { state := .ready, pending := none, fn, tmps := a.tmps, params := ps, assign, body, defers := w.heap.size }) := ⟨_, rfl⟩
 refine ⟨w.heap.size + 1, [{ target := .collected w.heap.size, args := #[] }], W1, { target := .fn (.func gf) lb, args := #[.func (.yield (w.heap.size + 1)) #[] #[]] }, W1, gf, #[.func (.yield (w.heap.size + 1)) #[] #[]] ++ lb, W1, ?_, ?_, fun _ _ => trivial, ?_, (fun h => absurd h (by decide)), ?_⟩
 ·rw [hW1]
  exact run_enterLoop_outer _ _ _ _ _
 ·simp only [resolve, hg]
  simp [go_sem]
 ·exact eg _ _
 ·exact h fn W1 hW1
theorem desk_info : ∃ i, Tryz.prog.info? 61 = some i /\ i.zero = some (.agg #[.pointer none]) /\ i.size = 1 := ⟨(Tryz.prog.info? 61).get!, by kernel_rfl, by kernel_rfl, by kernel_rfl⟩
theorem bld_info : ∃ i, Tryz.prog.info? 65 = some i /\ i.zero = some (.agg #[.pointer none, .slice none 0 0]) := ⟨(Tryz.prog.info? 65).get!, by kernel_rfl, by kernel_rfl⟩
section
variable {ro : Option Nat} {n : Nat} {Q : Exit -> Act -> World -> Prop} {ops : Array Oper} {F I : Nat -> Prop} {Z : Zy} {β : Nat -> Nat -> Nat} {st : St} {a : Act} {w0 w : World} {d g : Nat} {ty2 ty3 : TypeId} {p2 p3 : String} {af2 af3 : Array Edge}
theorem desk_box (hsz : ops.size = 4) (ho2 : ops[2]? = some ⟨some 3, .alloc 61, ty2, p2, af2, none⟩) (ho3 : ops[3]? = some ⟨none, .store 61 (.tmp 3) (.tmp 8), ty3, p3, af3, none⟩) (h : Rel w0 F I Z 39 β st a w) (h8 : st.tmp 8 = .pst d g) (hg : g < st.gen d)
  (k : ∀ β' a' w', Rel w0 F I Z 39 β' (st.newH 3 [.ptr d g 0]) a' w' -> Q .normal a' w') : wpOpsIn (fw ro) n Tryz.prog ops Q (List.range' 2 2) a w := by
 obtain ⟨i, hi, hz, hs⟩ := desk_info
 have e8 : a.tmps.getD 8 undef = .agg #[.pointer (some ⟨β d g, 0, none⟩)] := by
  have := h.tmps 8
  rw [h8] at this
  exact this
 have hT : a.tmps.size = 39 := h.size
 rw [show List.range' 2 2 = [2, 3] from rfl, wpOpsIn_cons, <- lay_nil (a := a)]
 refine hand_in (D := []) (w1 := w.alloc (.cells #[.pointer none] 61)) (v := .pointer (some ⟨w.heap.size, 0, none⟩)) ho2 rfl rfl ?_ ?_
 ·simp [execOp, Instr.alloc, run_zero hi hz, newVar, newRow]
  rfl
 rw [wpOpsIn_cons]
 obtain ⟨w2, hw2⟩ : ∃ w2, w2 = (w.alloc (.cells #[.pointer none] 61)).setRow w.heap.size #[.pointer (some ⟨β d g, 0, none⟩)] := ⟨_, rfl⟩
 have hnew : (w.alloc (.cells #[.pointer none] 61)).heap[w.heap.size]? = some (.cells #[.pointer none] 61 (0, 0)) := World.alloc_heap_new w _
 refine hand_skip (D := []) (w1 := w2) ho3 rfl rfl rfl ?_ ?_
 ·have e3 : (a.put (some 3) (.pointer (some ⟨w.heap.size, 0, none⟩))).eval (.tmp 3) = .pointer (some ⟨w.heap.size, 0, none⟩) := by
   show (a.tmps.setIfInBounds 3 _).getD 3 undef = _
   rw [ext_T (by omega), if_pos rfl]
  have e8' : (a.put (some 3) (.pointer (some ⟨w.heap.size, 0, none⟩))).eval (.tmp 8) = .agg #[.pointer (some ⟨β d g, 0, none⟩)] := by
   show (a.tmps.setIfInBounds 3 _).getD 8 undef = _
   rw [ext_T (by omega), if_neg (by omega)]
   exact e8
  have hrun := storeVar_run (P := Tryz.prog) (w := w.alloc (.cells #[.pointer none] 61)) hi (v := .agg #[.pointer (some ⟨β d g, 0, none⟩)]) (off := 0) (by rw [hs]; rfl) (fun u hu => by simp [Value.cells] at hu; rw [hu]; rfl) hnew (by simp [Value.cells])
  simp only [execOp, e3, e8', Instr.storeAt, Instr.sureAddr, Sem.run_bind, Sem.run_pure, Result.andThen_ok, hrun]
  rw [hw2]
  rfl
 show Q .normal _ _
 have he : Ext (fun _ => False) w w2 := by
  subst hw2
  refine ⟨rfl, rfl, rfl, by simp, fun b hb _ => ?_, fun _ _ _ _ h => h.elim⟩
  rw [setRow_other _ _ _ _ (by omega)]
  exact Below.heap_alloc _ _ _ hb
 have hr := h.adoptH (d := 3) (ts := [.ptr d g 0]) (us := #[.pointer (some ⟨β d g, 0, none⟩)]) (ty := 61) he (by omega) (Nat.le_refl _) (by subst hw2; exact setRow_heap _ _ _ _ _ _ hnew) (fun i t hi => by
  cases i with
  | zero => cases hi; exact ⟨.inr ⟨d, g, 0, rfl, hg⟩, _, rfl, rfl, rfl⟩
  | succ i => cases hi)
 rw [lay_nil]
 exact k _ _ _ hr
end
section
variable {G : List (Nat × Value)} {w : World} {T5 : Array Value} {fn bb k : Nat} {ty4 ty5 : TypeId} {pos4 pos5 : String} {af4 af5 : Array Edge} {c5 c7 c8 c9 : Code} {ops : Array Oper} {tys : Array TypeId} {assign body : Code}
theorem start_J {F0 I : Nat -> Prop} {β3 : Nat -> Nat -> Nat} {s3 : St} {T3 : Array Value} {w3 w5 W1 : World} (hrel3 : Rel w F0 I ⟨fun _ => 0, fun _ => undef, False, G⟩ 39 β3 s3 ⟨T3, []⟩ w3) (hI : ∀ k, I k -> w.heap.size <= k) (hbb : bb = w3.heap.size)
  (hbox : s3.hob 2000003 1 = some [.ptr 2000007 1 0]) (hsess : SessR s3 2000007 1 [] 6) (hgen : 1 < s3.gen 2000003) (t3 : s3.tmp 3 = .ptr 2000003 1 0)
  (hz5T : T5.size = 39) (hT5 : ∀ t, t ≠ 4 -> t ≠ 9 -> t ≠ 10 -> T5.getD t undef = T3.getD t undef) (hT54 : T5.getD 4 undef = .pointer (some ⟨bb, 0, none⟩))
  (hz5 : w5.heap.size = bb + 4) (hold5 : ∀ j, j < bb -> w5.heap[j]? = w3.heap[j]?) (hbld5 : w5.heap[bb]? = some (.cells #[.pointer none, .slice none 0 0] 65 (0, 0))) (hbel5 : Below w.heap.size w w5)
  (hW1 : W1 = (w5.alloc (.deferred (some []))).alloc (.loop { state := .ready, pending := none, fn, tmps := T5, params := #[11], assign, body, defers := w5.heap.size })) : RunJ G w T5 fn bb assign body 0 W1 := by
 have hle : w.heap.size <= bb := by rw [hbb]; exact hrel3.ext.size
 have hob3 : ∀ d g ts, s3.hob d g = some ts -> s3.obj d g = some [] := fun d g ts h => (hrel3.hobs d g ts h).2.1
 have hWold : ∀ j, j < bb + 4 -> W1.heap[j]? = w5.heap[j]? := fun j hj => by
  rw [hW1, Below.heap_alloc _ _ _ (by rw [World.size_alloc]; omega), Below.heap_alloc _ _ _ (by omega)]
 have hWz : W1.heap.size = bb + 6 := by rw [hW1, World.size_alloc, World.size_alloc, hz5]
 have hdfr : W1.heap[bb + 4]? = some (.deferred (some [])) := by
  rw [hW1, Below.heap_alloc _ _ _ (by rw [World.size_alloc]; omega), <- hz5]
  exact World.alloc_heap_new _ _
 have hrc : W1.heap[bb + 5]? = some (.loop (recB T5 fn bb assign body .ready)) := by
  have := World.alloc_heap_new (w5.alloc (.deferred (some []))) (.loop { state := .ready, pending := none, fn, tmps := T5, params := #[11], assign, body, defers := w5.heap.size })
  rw [<- hW1, World.size_alloc, hz5] at this
  exact this
 have hbel : Below w.heap.size w W1 := hbel5.trans (by
  rw [hW1]
  exact (((Below.refl _ w5).alloc (by omega) _).alloc (by rw [World.size_alloc]; omega) _))
 refine ⟨hle, .pointer none, .slice none 0 0, s3.with (fun t => if t = 4 then .sv (.con (.pointer (some ⟨bb, 0, none⟩))) else if t = 9 then .undef else if t = 10 then .undef else s3.tmp t) (fun t => if t = 4 then .sv (.con (.pointer (some ⟨bb, 0, none⟩))) else if t = 9 then .undef else if t = 10 then .undef else s3.tmp t), .inl rfl, (fun j h => by cases h), ⟨hbel, hrc, hdfr, (hWold _ (by omega)).trans hbld5, World.ownsRow_nil _ _ _ _⟩, RunS.mk' hbox hsess hgen hob3 t3 rfl, ?_⟩
 have htt : ∀ t, RepT β3 w3 (Mut F0 β3 s3) (T5.getD t undef) (if t = 4 then .sv (.con (.pointer (some ⟨bb, 0, none⟩))) else if t = 9 then .undef else if t = 10 then .undef else s3.tmp t) := by
  intro t
  by_cases h4 : t = 4
  ·subst h4
   rw [if_pos rfl, hT54]
   exact .con _ rfl
  rw [if_neg h4]
  by_cases h9 : t = 9
  ·rw [if_pos h9]
   trivial
  rw [if_neg h9]
  by_cases h10 : t = 10
  ·rw [if_pos h10]
   trivial
  rw [if_neg h10, hT5 t h4 h9 h10]
  exact hrel3.tmps t
 refine live_with (C := fun _ => False) hrel3 (Nat.le_refl _) hI (fun j cs ty fz h _ => ?_) (fun _ h => h.elim) (by omega) (fun j hj => ⟨?_, fun hlt => ?_⟩) (fun _ _ _ h => h) rfl (fun d g ts h => ⟨by rw [hob3 d g ts h]; rfl, h⟩) hz5T htt htt
 ·have hlt := (Array.getElem?_eq_some_iff.1 h).1
  rw [hWold j (by omega), hold5 j (by omega)]
  exact h
 ·rcases hj with hj | hj
  ·omega
  ·cases hj
 ·rcases hj with hj | hj
  ·omega
  ·cases hj
theorem glob_J {W : World} (h : RunJ G w T5 fn bb assign body k W) : GlOk G W (fun _ => False) := by
 obtain ⟨_, p, v, st, _, _, _, _, z, β, hrel, _⟩ := h
 exact fun g v hg => Rep.mono (fun _ _ _ => rfl) (fun _ _ h => h.elim) (hrel.glob g v hg)
theorem turn_J {W W' : World} (h : RunJ G w T5 fn bb assign body k W) (hs : ∀ j, j < W.heap.size -> j ≠ bb + 1 -> W'.heap[j]? = W.heap[j]?) (hsz : W.heap.size <= W'.heap.size) (h1 : W'.os = W.os) (h2 : W'.tape = W.tape) (h3 : W'.output = W.output) : RunJ G w T5 fn bb assign body k W' := by
 obtain ⟨hle, p, v, st, hp, hv6, hside, hr, z, β, hrel, hL⟩ := h
 have hlt : bb + 5 < W.heap.size := (Array.getElem?_eq_some_iff.1 hside.rc).1
 have hbel : Below w.heap.size W W' := ⟨h1, h2, h3, hsz, fun j hj => hs j (by have := hside.base.size; omega) (by omega)⟩
 have hown : ∀ j, v.ownBlock = some j -> W'.heap[j]? = W.heap[j]? := fun j hj => hs j (owns_lt hside.own hj).1 (by have := hv6 j hj; omega)
 refine ⟨hle, p, v, st.with st.up st.up, hp, hv6, ⟨hside.base.trans hbel, (hs _ hlt (by omega)).trans hside.rc, (hs _ (by omega) (by omega)).trans hside.dfr, (hs _ (by omega) (by omega)).trans hside.bld, owns_same hside.own hown⟩, hr.with (fun d g ts h => (hrel.hobs d g ts h).2.1) rfl rfl, ?_⟩
 exact live_again (C := fun j => j = bb + 1) hrel hside.base.size hL trivial (fun j cs ty fz h hc => (hs j (Array.getElem?_eq_some_iff.1 h).1 hc).trans h) (fun j hj => .inl ⟨by omega, by omega⟩) hsz (fun j hj => ⟨Nat.lt_of_lt_of_le (hrel.old j hj) hsz, fun _ => hj⟩) hrel.size hrel.ups hrel.ups
end
end Go.Proofs.YtlojijllmadnoaaGreatDoor
