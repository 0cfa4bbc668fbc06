/- Part 9 of the proof: the evaluator, contracts of functions and their plain laws (joined by program). No condition. -/
import Derived.Test.YticocojomlfhgaaGreatDoorPart8
set_option linter.unusedVariables false
set_option linter.unusedSimpArgs false
set_option maxRecDepth 100000
namespace Go.Proofs.YticocojomlfhgaaGreatDoor
open Go.Ev
section
variable {ops : Array Oper} {l : List Oper} {dst : Option Nat} {st : St} {Q : St → Prop} {d g p : Nat} {es : List Ent} {t : List UInt8} {D : Int}
theorem sess_Drop_at (hp : PosAt es t p) (hl : es.length ≤ 100000) (hat : isAt es t p = true) (h : SessR st d g es D)
    (k : ∀ st', Keep st st' → SessR st' d g (es.take p ++ es.drop (p + 1)) D → WO CX false ops l (st'.putO dst (.sv (.int .i64 0))) Q) :
    WN CX ops l dst st Q 19 [.ptr d g 0, .sv (.str (bs t))] := by
  have hd' : 2000000 ≤ d := h.ob
  have hpl : plV (.ptr d g 0) = true := decide_eq_true h.ob
  refine wn_of (fn := Tryz.f19) (body := (Tryz.f19).body.get!) (by kernel_rfl) (by kernel_rfl) (by kernel_rfl) (Nat.le_of_ble_eq_true (by kernel_rfl)) ?_; unfold Tryz.f19; simp only [Option.get!_some]
  repeat (first | (simp only [go_sem, hd']) | (simp (disch := (first | omega | (simp only [AL, List.length_map]; omega))) only [AR, AL, ifT, ifF, take_all, List.length_cons, List.length_nil, Int.reduceToNat, Int.reducePow, Nat.reducePow, hd']) | (refine wk_intro (by kernel_rfl) ?_) | (refine wq_no (by kernel_rfl) ?_))
  refine sess_at hp hl (h.of rfl (fun _ => rfl) (Nat.le_refl _)) ?_
  intro s1 hk hs1
  have k0 : s1.tmp 0 = .ptr d g 0 := hk.tmp 0 hpl
  have hu := hk.up
  clear hk h
  have hlt : p < es.length := by
    unfold isAt at hat
    rw [Bool.and_eq_true] at hat
    exact of_decide_eq_true hat.1
  obtain ⟨_, hrow⟩ := hs1
  rcases hrow with ⟨rfl, _⟩ | ⟨g1, hg1, ho, hobj⟩
  · simp at hlt
  repeat (first | (simp only [go_sem, hd', k0, hat, ho, hobj, Bool.not_true]) | (simp (disch := (first | omega | (simp only [AL, List.length_map]; omega))) only [AR, AL, ifT, ifF, take_all, List.length_cons, List.length_nil, Int.reduceToNat, Int.reducePow, Nat.reducePow, hd', k0, hat, ho, hobj, Bool.not_true]) | (refine wk_intro (by kernel_rfl) ?_) | (refine wq_no (by kernel_rfl) ?_))
  refine sess_delete hlt hl ?_ ?_
  · simp only [obj_put]
    exact hobj
  intro s2 hk2 hg2 hobj2 hhob2
  have j17 : s2.tmp 17 = .ptr d g 0 := (hk2.tmp 17 hpl).trans rfl
  have hob2 : s2.hob d g = some [.undef, .sv (.int .i64 D)] := by
    rw [hhob2]
    simp only [hob_put]
    rw [ho]
    simp only [Option.map_some, List.map_cons, List.map_nil, TV.kill, and_self, if_true]
  have hgen2 : g1 < s2.gen 25 := Nat.lt_of_lt_of_le hg1 (by simpa only [gen_put] using hg2)
  have hu2 := hk2.up
  have hu3 : ∀ u, plV (s1.up u) = true → s2.up u = s1.up u := hu2
  clear hk2 hu2 hhob2 k0
  repeat (first | (simp only [go_sem, hd', j17, hob2, hobj2]) | (simp (disch := (first | omega | (simp only [AL, List.length_map]; omega))) only [AR, AL, ifT, ifF, take_all, List.length_cons, List.length_nil, Int.reduceToNat, Int.reducePow, Nat.reducePow, hd', j17, hob2, hobj2]) | (refine wk_intro (by kernel_rfl) ?_) | (refine wq_no (by kernel_rfl) ?_))
  refine k _ (keep_of (vs := [.ptr d g 0, .sv (.str (bs t))]) fun u huu => ?_) ⟨hd', .inr ⟨g1, ?_, ?_, ?_⟩⟩
  · simp only [up_put, up_setH]
    have h1 := hu u huu
    exact (hu3 u (by rw [h1]; exact huu)).trans h1
  · simp only [gen_leave, gen_put, gen_setH]
    exact hgen2
  · simp only [hob_leave, hob_put, hob_setH, and_self, if_true]
    rw [List.length_append, List.length_take, List.length_drop, Nat.min_eq_left (by omega), show p + (es.length - (p + 1)) = es.length - 1 by omega]
  · simp only [obj_leave, obj_put, obj_setH]
    exact hobj2
theorem sess_Drop_none (hp : PosAt es t p) (hl : es.length ≤ 100000) (hat : isAt es t p = false) (h : SessR st d g es D)
    (k : ∀ st', Keep st st' → SessR st' d g es D → WO CX false ops l (st'.putO dst (.sv (.int .i64 6))) Q) :
    WN CX ops l dst st Q 19 [.ptr d g 0, .sv (.str (bs t))] := by
  have hd' : 2000000 ≤ d := h.ob
  have hpl : plV (.ptr d g 0) = true := decide_eq_true h.ob
  refine wn_of (fn := Tryz.f19) (body := (Tryz.f19).body.get!) (by kernel_rfl) (by kernel_rfl) (by kernel_rfl) (Nat.le_of_ble_eq_true (by kernel_rfl)) ?_; unfold Tryz.f19; simp only [Option.get!_some]
  repeat (first | (simp only [go_sem, hd']) | (simp (disch := (first | omega | (simp only [AL, List.length_map]; omega))) only [AR, AL, ifT, ifF, take_all, List.length_cons, List.length_nil, Int.reduceToNat, Int.reducePow, Nat.reducePow, hd']) | (refine wk_intro (by kernel_rfl) ?_) | (refine wq_no (by kernel_rfl) ?_))
  refine sess_at hp hl (h.of rfl (fun _ => rfl) (Nat.le_refl _)) ?_
  intro s1 hk hs1
  have k0 : s1.tmp 0 = .ptr d g 0 := hk.tmp 0 hpl
  have hu := hk.up
  clear hk h
  repeat (first | (simp only [go_sem, hd', k0, hat, Bool.not_false]) | (simp (disch := (first | omega | (simp only [AL, List.length_map]; omega))) only [AR, AL, ifT, ifF, take_all, List.length_cons, List.length_nil, Int.reduceToNat, Int.reducePow, Nat.reducePow, hd', k0, hat, Bool.not_false]) | (refine wk_intro (by kernel_rfl) ?_) | (refine wq_no (by kernel_rfl) ?_))
  exact k _ (keep_of (vs := [.ptr d g 0, .sv (.str (bs t))]) fun u huu => hu u huu) (hs1.of rfl (fun _ => rfl) (Nat.le_refl _))
theorem sess_Get_none (hp : PosAt es t p) (hl : es.length ≤ 100000) (hat : isAt es t p = false) (h : SessR st d g es D)
    (k : ∀ st', Keep st st' → SessR st' d g es D → WO CX false ops l (st'.putO dst (.sv (.tup [.sl 0 [], .int .i64 6]))) Q) :
    WN CX ops l dst st Q 12 [.ptr d g 0, .sv (.str (bs t))] := by
  have hd' : 2000000 ≤ d := h.ob
  have hpl : plV (.ptr d g 0) = true := decide_eq_true h.ob
  refine wn_of (fn := Tryz.f12) (body := (Tryz.f12).body.get!) (by kernel_rfl) (by kernel_rfl) (by kernel_rfl) (Nat.le_of_ble_eq_true (by kernel_rfl)) ?_; unfold Tryz.f12; simp only [Option.get!_some]
  repeat (first | (simp only [go_sem, hd']) | (simp (disch := (first | omega | (simp only [AL, List.length_map]; omega))) only [AR, AL, ifT, ifF, take_all, List.length_cons, List.length_nil, Int.reduceToNat, Int.reducePow, Nat.reducePow, hd']) | (refine wk_intro (by kernel_rfl) ?_) | (refine wq_no (by kernel_rfl) ?_))
  refine sess_at hp hl (h.of rfl (fun _ => rfl) (Nat.le_refl _)) ?_
  intro s1 hk hs1
  have k0 : s1.tmp 0 = .ptr d g 0 := hk.tmp 0 hpl
  have hu := hk.up
  clear hk h
  repeat (first | (simp only [go_sem, hd', k0, hat, Bool.not_false]) | (simp (disch := (first | omega | (simp only [AL, List.length_map]; omega))) only [AR, AL, ifT, ifF, take_all, List.length_cons, List.length_nil, Int.reduceToNat, Int.reducePow, Nat.reducePow, hd', k0, hat, Bool.not_false]) | (refine wk_intro (by kernel_rfl) ?_) | (refine wq_no (by kernel_rfl) ?_))
  exact k _ (keep_of (vs := [.ptr d g 0, .sv (.str (bs t))]) fun u huu => hu u huu) (hs1.of rfl (fun _ => rfl) (Nat.le_refl _))
theorem sess_Set_name {tl : TV} (ht : t.length ≤ 1048576) (hn : nameP t = false) (h : SessR st d g es D)
    (k : ∀ st', Keep st st' → SessR st' d g es D → WO CX false ops l (st'.putO dst (.sv (.int .i64 6))) Q) :
    WN CX ops l dst st Q 11 [.ptr d g 0, .sv (.str (bs t)), tl] := by
  have nm := sess_Name t ht
  rw [hn] at nm
  have hd' : 2000000 ≤ d := h.ob
  refine wn_of (fn := Tryz.f11) (body := (Tryz.f11).body.get!) (by kernel_rfl) (by kernel_rfl) (by kernel_rfl) (Nat.le_of_ble_eq_true (by kernel_rfl)) ?_; unfold Tryz.f11; simp only [Option.get!_some]
  repeat (first | (simp only [go_sem, hd', Bool.not_false]) | (simp (disch := (first | omega | (simp only [AL, List.length_map]; omega))) only [AR, AL, ifT, ifF, take_all, List.length_cons, List.length_nil, Int.reduceToNat, Int.reducePow, Nat.reducePow, hd', Bool.not_false]) | (refine wk_intro (by kernel_rfl) ?_) | (refine wq_no (by kernel_rfl) ?_) | (refine vp_draw (id := 10) (l := [2]) (by kernel_rfl) ?_) | (refine vf_of (by first | exact nm) ?_))
  exact k _ (keep_of (vs := []) fun u huu => rfl) (h.of rfl (fun _ => rfl) (Nat.le_refl _))
theorem sess_Let_name {x : List UInt8} (ht : t.length ≤ 1048576) (hn : nameP t = false) (h : SessR st d g es D)
    (k : ∀ st', Keep st st' → SessR st' d g es D → WO CX false ops l (st'.putO dst (.sv (.int .i64 6))) Q) :
    WN CX ops l dst st Q 18 [.ptr d g 0, .sv (.str (bs t)), .sv (.str (bs x))] := by
  have nm := sess_Name t ht
  rw [hn] at nm
  have hd' : 2000000 ≤ d := h.ob
  refine wn_of (fn := Tryz.f18) (body := (Tryz.f18).body.get!) (by kernel_rfl) (by kernel_rfl) (by kernel_rfl) (Nat.le_of_ble_eq_true (by kernel_rfl)) ?_; unfold Tryz.f18; simp only [Option.get!_some]
  repeat (first | (simp only [go_sem, hd', Bool.not_false]) | (simp (disch := (first | omega | (simp only [AL, List.length_map]; omega))) only [AR, AL, ifT, ifF, take_all, List.length_cons, List.length_nil, Int.reduceToNat, Int.reducePow, Nat.reducePow, hd', Bool.not_false]) | (refine wk_intro (by kernel_rfl) ?_) | (refine wq_no (by kernel_rfl) ?_) | (refine vf_of (by first | exact nm) ?_))
  exact k _ (keep_of (vs := []) fun u huu => rfl) (h.of rfl (fun _ => rfl) (Nat.le_refl _))
theorem sess_Set_long {m : Nat} {cs : List SV} (ht : t.length ≤ 1048576) (hn : nameP t = true) (hp : PosAt es t p) (hl : es.length ≤ 100000) (hm : 256 < m) (h : SessR st d g es D)
    (k : ∀ st', Keep st st' → SessR st' d g es D → WO CX false ops l (st'.putO dst (.sv (.int .i64 7))) Q) :
    WN CX ops l dst st Q 11 [.ptr d g 0, .sv (.str (bs t)), .sv (.sl m cs)] := by
  have nm := sess_Name t ht
  rw [hn] at nm
  have hd' : 2000000 ≤ d := h.ob
  have hpl : plV (.ptr d g 0) = true := decide_eq_true h.ob
  refine wn_of (fn := Tryz.f11) (body := (Tryz.f11).body.get!) (by kernel_rfl) (by kernel_rfl) (by kernel_rfl) (Nat.le_of_ble_eq_true (by kernel_rfl)) ?_; unfold Tryz.f11; simp only [Option.get!_some]
  repeat (first | (simp only [go_sem, hd', Bool.not_true]) | (simp (disch := (first | omega | (simp only [AL, List.length_map]; omega))) only [AR, AL, ifT, ifF, take_all, List.length_cons, List.length_nil, Int.reduceToNat, Int.reducePow, Nat.reducePow, hd', Bool.not_true]) | (refine wk_intro (by kernel_rfl) ?_) | (refine wq_no (by kernel_rfl) ?_) | (refine vp_draw (id := 10) (l := [2]) (by kernel_rfl) ?_) | (refine vf_of (by first | exact nm) ?_))
  refine sess_at hp hl (h.of rfl (fun _ => rfl) (Nat.le_refl _)) ?_
  intro s1 hk hs1
  have k0 : s1.tmp 0 = .ptr d g 0 := hk.tmp 0 hpl
  have k2 : s1.tmp 2 = .sv (.sl m cs) := hk.tmp 2 rfl
  have hu := hk.up
  clear hk h
  have hs := hs1
  obtain ⟨_, hrow⟩ := hs1
  generalize isAt es t p = b at *
  rcases hrow with ⟨rfl, ho⟩ | ⟨g1, hg1, ho, hobj⟩
  all_goals
    cases b
    all_goals
      repeat (first | (simp only [go_sem, hd', k0, k2, ho, Bool.not_true, Bool.not_false]) | (simp (disch := (first | omega | (simp only [AL, List.length_map]; omega))) only [AR, AL, ifT, ifF, take_all, List.length_cons, List.length_nil, Int.reduceToNat, Int.reducePow, Nat.reducePow, hd', k0, k2, ho, Bool.not_true, Bool.not_false]) | (refine wk_intro (by kernel_rfl) ?_) | (refine wq_no (by kernel_rfl) ?_) | (refine vp_draw (id := 10) (l := [2]) (by kernel_rfl) ?_))
      exact k _ (keep_of (vs := []) fun u huu => hu u huu) (hs.of rfl (fun _ => rfl) (Nat.le_refl _))
end
end Go.Proofs.YticocojomlfhgaaGreatDoor
namespace Go.Proofs.YticocojomlfhgaaGreatDoor
open Go.Ev
structure ActI where
  k : Int
  t : List UInt8
  x : List UInt8
  ps : List InR
  n : Int
  deriving Inhabited
def ActI.cells (a : ActI) : List SV := [.int .i64 a.k, .str (bs a.t), .str (bs a.x), rowV a.ps, .int .i64 a.n]
def actsC (acs : List ActI) : List SV := acs.flatMap ActI.cells
theorem actsC_cons (a : ActI) (acs : List ActI) : actsC (a :: acs) = a.cells ++ actsC acs := by unfold actsC; simp
theorem actsC_len : ∀ acs : List ActI, (actsC acs).length = acs.length * 5
  | [] => rfl
  | a :: acs => by rw [actsC_cons, List.length_append, actsC_len acs, List.length_cons, show a.cells.length = 5 from rfl]; omega
theorem act_at : ∀ {acs : List ActI} {i : Nat}, i < acs.length → ∃ rest, (actsC acs).drop (i * 5) = .int .i64 (acs.getD i default).k :: .str (bs (acs.getD i default).t) :: .str (bs (acs.getD i default).x) :: rowV (acs.getD i default).ps :: .int .i64 (acs.getD i default).n :: rest
  | a :: acs, 0, _ => ⟨actsC acs, by rw [Nat.zero_mul, List.drop_zero, actsC_cons]; rfl⟩
  | a :: acs, i + 1, h => by
    obtain ⟨rest, hr⟩ := act_at (acs := acs) (i := i) (by simpa using h)
    refine ⟨rest, ?_⟩
    rw [actsC_cons, show (i + 1) * 5 = 5 + i * 5 by omega, ← List.drop_drop, show List.drop 5 (a.cells ++ actsC acs) = actsC acs from rfl, hr]
    rfl
theorem u_acts : Tryz.prog.underlying 42 = some (.slice 45) := by kernel_rfl
theorem u_strg : Tryz.prog.underlying 9 = some .string := by kernel_rfl
theorem ts_act : fieldTs Tryz.prog 45 = [3, 9, 9, 22, 3] := by kernel_rfl
theorem shp_str {n : Nat} {ss : List SV} (h : ShpT Tryz.prog (n + 1) 9 ss) : ∃ t : List UInt8, ss = [.str (bs t)] := by
  unfold ShpT at h
  rw [u_strg] at h
  obtain ⟨s, rfl, _⟩ := h
  exact ⟨s.data.toList, by rw [bs_data]⟩
theorem shp_act {n : Nat} {ss : List SV} (h : ShpT Tryz.prog (n + 5) 45 ss) : ∃ a : ActI, ss = a.cells ∧ a.ps.length ≤ maxLen ∧ ∀ p ∈ a.ps, p.ok := by
  obtain ⟨parts, rfl, hl, hp⟩ := shp_struct ts_act (by simp) h
  obtain ⟨a, b, c, d, e, rfl⟩ := len_five hl
  obtain ⟨k, rfl, _⟩ := shp_int (hp 0 _ a rfl rfl)
  obtain ⟨t, rfl⟩ := shp_str (hp 1 _ b rfl rfl)
  obtain ⟨x, rfl⟩ := shp_str (hp 2 _ c rfl rfl)
  obtain ⟨ps, rfl, h1, h2⟩ := shp_rats (hp 3 _ d rfl rfl)
  obtain ⟨m, rfl, _⟩ := shp_int (hp 4 _ e rfl rfl)
  exact ⟨⟨k, t, x, ps, m⟩, rfl, h1, h2⟩
theorem shp_acts_all {n : Nat} : ∀ l : List (List SV), (∀ x ∈ l, ShpT Tryz.prog (n + 5) 45 x) → ∃ acs : List ActI, l.flatten = actsC acs ∧ l.length = acs.length ∧ ∀ a ∈ acs, a.ps.length ≤ maxLen ∧ ∀ p ∈ a.ps, p.ok := by
  intro l
  induction l with
  | nil => intro _; exact ⟨[], rfl, rfl, fun p hp => by cases hp⟩
  | cons x l ih =>
    intro hx
    obtain ⟨acs, h1, h2, h3⟩ := ih fun y hy => hx y (List.mem_cons_of_mem _ hy)
    obtain ⟨a, rfl, h4, h5⟩ := shp_act (hx x List.mem_cons_self)
    refine ⟨a :: acs, by rw [List.flatten_cons, h1, actsC_cons], by simp [h2], fun p hp => ?_⟩
    rcases List.mem_cons.1 hp with rfl | hp
    · exact ⟨h4, h5⟩
    · exact h3 p hp
theorem shp_acts {n : Nat} {ss : List SV} (h : ShpT Tryz.prog (n + 6) 42 ss) : ∃ acs : List ActI, ss = [.sl acs.length (actsC acs)] ∧ acs.length ≤ maxLen ∧ ∀ a ∈ acs, a.ps.length ≤ maxLen ∧ ∀ p ∈ a.ps, p.ok := by
  unfold ShpT at h
  rw [u_acts] at h
  obtain ⟨elems, rfl, hl, he⟩ := h
  obtain ⟨acs, h1, h2, h3⟩ := shp_acts_all elems he
  exact ⟨acs, by rw [h1, h2], h2 ▸ hl, h3⟩
def noS : InR := (false, [], [])
theorem ratsC_atS : ∀ {ps : List InR} {k : Nat}, k < ps.length → ∃ rest, (ratsC ps).drop (k * 3) = .bool (ps.getD k noS).1 :: natV (ps.getD k noS).2.1 :: natV (ps.getD k noS).2.2 :: rest
  | [], _, h => by simp at h
  | p :: ps, 0, _ => ⟨_, rfl⟩
  | p :: ps, k + 1, h => by
    obtain ⟨r, this⟩ := ratsC_atS (ps := ps) (k := k) (by simpa using h)
    refine ⟨r, ?_⟩
    rw [ratsC_cons]
    have e : ∀ j, (SV.bool p.1 :: natV p.2.1 :: natV p.2.2 :: ratsC ps).drop (j + 3) = (ratsC ps).drop j := fun _ => rfl
    rw [show (k + 1) * 3 = k * 3 + 3 by omega, e, this]
    rfl
def big3 (p : InR) : Bool := decide (3 < p.2.1.length) || decide (3 < p.2.2.length)
theorem any_takeS {α : Type} (f : α → Bool) (l : List α) (d : α) {i : Nat} (h : i < l.length) : (l.take (i + 1)).any f = ((l.take i).any f || f (l.getD i d)) := by
  rw [List.take_add_one, List.any_append, List.getElem?_eq_getElem h, List.getD_eq_getElem?_getD, List.getElem?_eq_getElem h]
  simp
theorem any_of_getDS {α : Type} (f : α → Bool) (l : List α) (d : α) {i : Nat} (h : i < l.length) (hf : f (l.getD i d) = true) : l.any f = true := by
  refine List.any_eq_true.2 ⟨l.getD i d, ?_, hf⟩
  rw [List.getD_eq_getElem?_getD, List.getElem?_eq_getElem h]
  exact List.getElem_mem h
theorem big3_row {ps : List InR} (h : ps.any big3 = false) (hok : ∀ p ∈ ps, p.ok) : RowC (ratsC ps) (ps.map InR.q) 3 := by
  refine ratsC_row ps fun p hp => ⟨hok p hp, ?_⟩
  have h2 := List.any_eq_false.1 h p hp
  unfold big3 at h2
  have h3 : (decide (3 < p.2.1.length) || decide (3 < p.2.2.length)) = false := by simpa using h2
  rw [Bool.or_eq_false_iff] at h3
  have h4 := of_decide_eq_false h3.1
  have h5 := of_decide_eq_false h3.2
  omega
theorem law22_big (ps : List InR) (hl : ps.length ≤ 1099511627776) : Go.Ev.Fn CX 9 [.sl ps.length (ratsC ps)] (.bool (ps.any big3)) := by
  have hlen := ratsC_len ps
  refine Go.Ev.Fn.intro (fn := Tryz.f9) (body := (Tryz.f9).body.get!) (by kernel_rfl) (by kernel_rfl) (by kernel_rfl) (fun _ => rfl) (Nat.le_of_ble_eq_true (by kernel_rfl)) ?_; unfold Tryz.f9; simp only [Option.get!_some]
  repeat (first | (simp only [go_sem]) | (simp (disch := (first | omega | (simp only [AL, List.length_map]; omega))) only [AR, AL, ifT, ifF, take_all, List.length_cons, List.length_nil, Int.reduceToNat, Int.reducePow, Nat.reducePow]) | (refine wk_intro (by kernel_rfl) ?_) | (refine wq_no (by kernel_rfl) ?_))
  refine vp_loop_inv (fun s => s.tmp 0 = .sv (.sl ps.length (ratsC ps)) ∧ ∃ k : Nat, s.tmp 3 = .sv (.int .i64 (k : Int)) ∧ k ≤ ps.length ∧ (ps.take k).any big3 = false)
    (fun s => match s.tmp 3 with | .sv (.int _ i) => ps.length - i.toNat | _ => 0) ⟨rfl, 0, rfl, by omega, rfl⟩ ?_
  rintro s ⟨i0, k, i3, hk, hb⟩
  by_cases hend : k = ps.length
  · subst hend
    rw [List.take_length] at hb
    rw [hb]
    repeat (first | (simp only [go_sem, i0, i3]) | (simp (disch := (first | omega | (simp only [AL, List.length_map]; omega))) only [AR, AL, ifT, ifF, take_all, List.length_cons, List.length_nil, Int.reduceToNat, Int.reducePow, Nat.reducePow, i0, i3]) | (refine wk_intro (by kernel_rfl) ?_) | (refine wq_no (by kernel_rfl) ?_))
  · obtain ⟨rest, g1⟩ := ratsC_atS (ps := ps) (k := k) (by omega)
    have gor := any_takeS big3 ps noS (i := k) (by omega)
    have gtr := any_of_getDS big3 ps noS (i := k) (by omega)
    rw [hb, Bool.false_or] at gor
    generalize hp : ps.getD k noS = p at *
    obtain ⟨s, n, d⟩ := p
    simp only at g1
    by_cases c1 : 3 < n.length
    · rw [gtr (by unfold big3; rw [decide_eq_true c1]; rfl)]
      clear gtr gor
      repeat (first | (simp only [go_sem, i0, i3, g1, hlen, List.drop_succ_cons, List.drop_zero, List.head?_cons]) | (simp (disch := (first | omega | (simp only [AL, List.length_map]; omega))) only [AR, AL, ifT, ifF, take_all, List.length_cons, List.length_nil, Int.reduceToNat, Int.reducePow, Nat.reducePow, i0, i3, g1, hlen, List.drop_succ_cons, List.drop_zero, List.head?_cons]) | (refine wk_intro (by kernel_rfl) ?_) | (refine wq_no (by kernel_rfl) ?_))
    · by_cases c2 : 3 < d.length
      · rw [gtr (by unfold big3; rw [decide_eq_true c2, Bool.or_true])]
        clear gtr gor
        repeat (first | (simp only [go_sem, i0, i3, g1, hlen, List.drop_succ_cons, List.drop_zero, List.head?_cons]) | (simp (disch := (first | omega | (simp only [AL, List.length_map]; omega))) only [AR, AL, ifT, ifF, take_all, List.length_cons, List.length_nil, Int.reduceToNat, Int.reducePow, Nat.reducePow, i0, i3, g1, hlen, List.drop_succ_cons, List.drop_zero, List.head?_cons]) | (refine wk_intro (by kernel_rfl) ?_) | (refine wq_no (by kernel_rfl) ?_))
      · have hbn : big3 (s, n, d) = false := by unfold big3; rw [decide_eq_false c1, decide_eq_false c2]; rfl
        rw [hbn] at gor
        clear gtr hbn
        repeat (first | (simp only [go_sem, i0, i3, g1, hlen, List.drop_succ_cons, List.drop_zero, List.head?_cons]) | (simp (disch := (first | omega | (simp only [AL, List.length_map]; omega))) only [AR, AL, ifT, ifF, take_all, List.length_cons, List.length_nil, Int.reduceToNat, Int.reducePow, Nat.reducePow, i0, i3, g1, hlen, List.drop_succ_cons, List.drop_zero, List.head?_cons]) | (refine wk_intro (by kernel_rfl) ?_) | (refine wq_no (by kernel_rfl) ?_))
        exact ⟨⟨k + 1, rfl, by omega, gor⟩, by omega⟩
def longA (a : ActI) : Bool := decide (60 < a.t.length) || (decide (300 < a.x.length) || (decide (300 < a.ps.length) || a.ps.any big3))
theorem law22_long (acs : List ActI) :
    Go.Ev.Fn CX 17 [.sl acs.length (actsC acs)] (.bool ((acs.take 60).any longA)) := by
  have hlen := actsC_len acs
  refine Go.Ev.Fn.intro (fn := Tryz.f17) (body := (Tryz.f17).body.get!) (by kernel_rfl) (by kernel_rfl) (by kernel_rfl) (fun _ => rfl) (Nat.le_of_ble_eq_true (by kernel_rfl)) ?_; unfold Tryz.f17; simp only [Option.get!_some]
  repeat (first | (simp only [go_sem]) | (simp (disch := (first | omega | (simp only [AL, List.length_map]; omega))) only [AR, AL, ifT, ifF, take_all, List.length_cons, List.length_nil, Int.reduceToNat, Int.reducePow, Nat.reducePow]) | (refine wk_intro (by kernel_rfl) ?_) | (refine wq_no (by kernel_rfl) ?_))
  refine vp_loop_inv (fun s => s.tmp 0 = .sv (.sl acs.length (actsC acs)) ∧ ∃ k : Nat, s.tmp 3 = .sv (.int .i64 (k : Int)) ∧ k ≤ acs.length ∧ k ≤ 60 ∧ (acs.take k).any longA = false)
    (fun s => match s.tmp 3 with | .sv (.int _ i) => acs.length - i.toNat | _ => 0) ⟨rfl, 0, rfl, by omega, by omega, rfl⟩ ?_
  rintro s ⟨i0, k, i3, hk, hk60, hb⟩
  by_cases hend : k = acs.length
  · subst hend
    rw [List.take_of_length_le (by omega), ← List.take_length (l := acs), hb]
    repeat (first | (simp only [go_sem, i0, i3]) | (simp (disch := (first | omega | (simp only [AL, List.length_map]; omega))) only [AR, AL, ifT, ifF, take_all, List.length_cons, List.length_nil, Int.reduceToNat, Int.reducePow, Nat.reducePow, i0, i3]) | (refine wk_intro (by kernel_rfl) ?_) | (refine wq_no (by kernel_rfl) ?_))
  by_cases h60 : k = 60
  · subst h60
    rw [hb]
    repeat (first | (simp only [go_sem, i0, i3]) | (simp (disch := (first | omega | (simp only [AL, List.length_map]; omega))) only [AR, AL, ifT, ifF, take_all, List.length_cons, List.length_nil, Int.reduceToNat, Int.reducePow, Nat.reducePow, i0, i3]) | (refine wk_intro (by kernel_rfl) ?_) | (refine wq_no (by kernel_rfl) ?_))
  · obtain ⟨rest, g1⟩ := act_at (acs := acs) (i := k) (by omega)
    have gor := any_takeS longA acs default (i := k) (by omega)
    have gtr : longA (acs.getD k default) = true → (acs.take 60).any longA = true := fun h => by
      refine any_of_getDS longA (acs.take 60) default (i := k) (by rw [List.length_take]; omega) ?_
      rw [List.getD_eq_getElem?_getD, List.getElem?_take_of_lt (by omega), ← List.getD_eq_getElem?_getD]
      exact h
    rw [hb, Bool.false_or] at gor
    have hmem : acs.getD k default ∈ acs := by
      rw [List.getD_eq_getElem?_getD, List.getElem?_eq_getElem (by omega)]
      exact List.getElem_mem _
    generalize acs.getD k default = a at *
    by_cases c1 : 60 < a.t.length
    · rw [gtr (by unfold longA; rw [decide_eq_true c1]; rfl)]
      clear gtr gor
      repeat (first | (simp only [go_sem, i0, i3, g1, hlen, bs_size, List.drop_succ_cons, List.drop_zero, List.head?_cons]) | (simp (disch := (first | omega | (simp only [AL, List.length_map]; omega))) only [AR, AL, ifT, ifF, take_all, List.length_cons, List.length_nil, Int.reduceToNat, Int.reducePow, Nat.reducePow, i0, i3, g1, hlen, bs_size, List.drop_succ_cons, List.drop_zero, List.head?_cons]) | (refine wk_intro (by kernel_rfl) ?_) | (refine wq_no (by kernel_rfl) ?_))
    · by_cases c2 : 300 < a.x.length
      · rw [gtr (by unfold longA; rw [decide_eq_true c2, Bool.true_or, Bool.or_true])]
        clear gtr gor
        repeat (first | (simp only [go_sem, i0, i3, g1, hlen, bs_size, List.drop_succ_cons, List.drop_zero, List.head?_cons]) | (simp (disch := (first | omega | (simp only [AL, List.length_map]; omega))) only [AR, AL, ifT, ifF, take_all, List.length_cons, List.length_nil, Int.reduceToNat, Int.reducePow, Nat.reducePow, i0, i3, g1, hlen, bs_size, List.drop_succ_cons, List.drop_zero, List.head?_cons]) | (refine wk_intro (by kernel_rfl) ?_) | (refine wq_no (by kernel_rfl) ?_))
      · by_cases c3 : 300 < a.ps.length
        · rw [gtr (by unfold longA; rw [decide_eq_true c3, Bool.true_or, Bool.or_true, Bool.or_true])]
          clear gtr gor
          repeat (first | (simp only [go_sem, i0, i3, g1, hlen, bs_size, List.drop_succ_cons, List.drop_zero, List.head?_cons]) | (simp (disch := (first | omega | (simp only [AL, List.length_map]; omega))) only [AR, AL, ifT, ifF, take_all, List.length_cons, List.length_nil, Int.reduceToNat, Int.reducePow, Nat.reducePow, i0, i3, g1, hlen, bs_size, List.drop_succ_cons, List.drop_zero, List.head?_cons]) | (refine wk_intro (by kernel_rfl) ?_) | (refine wq_no (by kernel_rfl) ?_))
        · have hbig := law22_big a.ps (by omega)
          cases hb2 : a.ps.any big3 with
          | true =>
            rw [gtr (by unfold longA; rw [hb2, Bool.or_true, Bool.or_true, Bool.or_true])]
            rw [hb2] at hbig
            clear gtr gor
            repeat (first | (simp only [go_sem, i0, i3, g1, hlen, bs_size, List.drop_succ_cons, List.drop_zero, List.head?_cons]) | (simp (disch := (first | omega | (simp only [AL, List.length_map]; omega))) only [AR, AL, ifT, ifF, take_all, List.length_cons, List.length_nil, Int.reduceToNat, Int.reducePow, Nat.reducePow, i0, i3, g1, hlen, bs_size, List.drop_succ_cons, List.drop_zero, List.head?_cons]) | (refine wk_intro (by kernel_rfl) ?_) | (refine wq_no (by kernel_rfl) ?_) | (refine vf_of (by first | exact hbig) ?_))
          | false =>
            have hbn : longA a = false := by unfold longA; rw [decide_eq_false c1, decide_eq_false c2, decide_eq_false c3, hb2]; rfl
            rw [hbn] at gor
            rw [hb2] at hbig
            clear gtr hbn
            repeat (first | (simp only [go_sem, i0, i3, g1, hlen, bs_size, List.drop_succ_cons, List.drop_zero, List.head?_cons]) | (simp (disch := (first | omega | (simp only [AL, List.length_map]; omega))) only [AR, AL, ifT, ifF, take_all, List.length_cons, List.length_nil, Int.reduceToNat, Int.reducePow, Nat.reducePow, i0, i3, g1, hlen, bs_size, List.drop_succ_cons, List.drop_zero, List.head?_cons]) | (refine wk_intro (by kernel_rfl) ?_) | (refine wq_no (by kernel_rfl) ?_) | (refine vf_of (by first | exact hbig) ?_))
            exact ⟨⟨k + 1, rfl, by omega, by omega, gor⟩, by omega⟩
end Go.Proofs.YticocojomlfhgaaGreatDoor
namespace Go.Proofs.YticocojomlfhgaaGreatDoor
open Go.Ev
theorem cb_swap : ∀ a b : List UInt8, Lib.compareBytes b a = - Lib.compareBytes a b
  | [], [] => rfl
  | [], _ :: _ => rfl
  | _ :: _, [] => rfl
  | x :: a, y :: b => by
    unfold Lib.compareBytes
    by_cases h1 : x < y
    · rw [if_neg (by rw [UInt8.lt_iff_toNat_lt] at *; omega), if_pos h1, if_pos h1]; rfl
    · by_cases h2 : y < x
      · rw [if_pos h2, if_neg h1, if_pos h2]
      · rw [if_neg h2, if_neg h1, if_neg h1, if_neg h2, cb_swap a b]
theorem cb_trans : ∀ {a b c : List UInt8}, Lib.compareBytes a b < 0 → Lib.compareBytes b c < 0 → Lib.compareBytes a c < 0
  | [], [], _, h, _ => by simp [Lib.compareBytes] at h
  | [], _ :: _, [], _, h => by simp [Lib.compareBytes] at h
  | [], _ :: _, _ :: _, _, _ => by simp [Lib.compareBytes]
  | _ :: _, [], _, h, _ => by simp [Lib.compareBytes] at h
  | _ :: _, _ :: _, [], _, h => by simp [Lib.compareBytes] at h
  | x :: a, y :: b, z :: c, h, k => by
    unfold Lib.compareBytes at h k ⊢
    by_cases h1 : x < y
    · by_cases k1 : y < z
      · rw [if_pos (by rw [UInt8.lt_iff_toNat_lt] at *; omega)]; decide
      · rw [if_neg k1] at k
        by_cases k2 : z < y
        · rw [if_pos k2] at k; simp at k
        · have : y = z := by
            apply UInt8.toNat.inj
            rw [UInt8.lt_iff_toNat_lt] at *; omega
          subst this
          rw [if_pos h1]; decide
    · rw [if_neg h1] at h
      by_cases h2 : y < x
      · rw [if_pos h2] at h; simp at h
      · rw [if_neg h2] at h
        have : x = y := by
          apply UInt8.toNat.inj
          rw [UInt8.lt_iff_toNat_lt] at *; omega
        subst this
        by_cases k1 : x < z
        · rw [if_pos k1]; decide
        · rw [if_neg k1] at k ⊢
          by_cases k2 : z < x
          · rw [if_pos k2] at k; simp at k
          · rw [if_neg k2] at k ⊢
            exact cb_trans h k
theorem cb_less : ∀ a b : List UInt8, Op.bytesLess a b = decide (Lib.compareBytes a b < 0)
  | [], [] => rfl
  | [], _ :: _ => rfl
  | _ :: _, [] => rfl
  | x :: a, y :: b => by
    unfold Op.bytesLess Lib.compareBytes
    have ih := cb_less a b
    by_cases h1 : x < y
    · rw [if_pos h1, decide_eq_true h1]; rfl
    · rw [if_neg h1, decide_eq_false h1, Bool.false_or]
      by_cases h2 : y < x
      · rw [if_pos h2]
        have : (x == y) = false := by
          rw [beq_eq_false_iff_ne]
          intro e; subst e
          rw [UInt8.lt_iff_toNat_lt] at h2; omega
        rw [this]; rfl
      · rw [if_neg h2]
        have : x = y := by
          apply UInt8.toNat.inj
          rw [UInt8.lt_iff_toNat_lt] at *; omega
        subst this
        rw [beq_self_eq_true, Bool.true_and, ih]
theorem cmp_zero0 : ∀ {a b : List UInt8}, Lib.compareBytes a b = 0 → a = b
  | [], [], _ => rfl
  | [], _ :: _, h => by simp [Lib.compareBytes] at h
  | _ :: _, [], h => by simp [Lib.compareBytes] at h
  | x :: a, y :: b, h => by
    unfold Lib.compareBytes at h
    split at h
    · cases h
    · rename_i h1
      split at h
      · cases h
      · rename_i h2
        have e : x = y := UInt8.le_antisymm (UInt8.not_lt.1 h2) (UInt8.not_lt.1 h1)
        rw [e, cmp_zero0 h]
def Srt (es : List Ent) : Prop := es.Pairwise fun a b => Lib.compareBytes a.1 b.1 < 0
theorem pos_ex : ∀ {es : List Ent}, Srt es → ∀ t : List UInt8, ∃ p, PosAt es t p
  | [], _, t => ⟨0, by simp, fun k h => absurd h (Nat.not_lt_zero k), fun k _ h => absurd h (Nat.not_lt_zero k)⟩
  | e :: es, h, t => by
    unfold Srt at h
    rw [List.pairwise_cons] at h
    by_cases hc : Lib.compareBytes e.1 t < 0
    · obtain ⟨p, h1, h2, h3⟩ := pos_ex h.2 t
      refine ⟨p + 1, by simpa using h1, fun k hk => ?_, fun k hk hk2 => ?_⟩
      · cases k with
        | zero => exact hc
        | succ k => exact h2 k (by omega)
      · cases k with
        | zero => omega
        | succ k => exact h3 k (by omega) (by simpa using hk2)
    · refine ⟨0, by simp, fun k hk => absurd hk (Nat.not_lt_zero k), fun k _ hk2 hlt => ?_⟩
      cases k with
      | zero => exact hc hlt
      | succ k =>
        have hk3 : k < es.length := by simpa using hk2
        have hm : es.getD k default ∈ es := by
          rw [List.getD_eq_getElem?_getD, List.getElem?_eq_getElem hk3]
          exact List.getElem_mem hk3
        exact hc (cb_trans (h.1 _ hm) hlt)
theorem srt_drop {es : List Ent} (h : Srt es) (p : Nat) : Srt (es.take p ++ es.drop (p + 1)) := by
  rw [← List.eraseIdx_eq_take_drop_succ]
  exact List.Pairwise.sublist (List.eraseIdx_sublist es p) h
theorem take_mem {es : List Ent} {p : Nat} {x : Ent} (h : x ∈ es.take p) : ∃ k, k < p ∧ k < es.length ∧ es.getD k default = x := by
  obtain ⟨k, hk, e⟩ := List.mem_iff_getElem.1 h
  have hk' : k < p ∧ k < es.length := by rw [List.length_take] at hk; omega
  refine ⟨k, hk'.1, hk'.2, ?_⟩
  rw [List.getD_eq_getElem?_getD, List.getElem?_eq_getElem hk'.2]
  rw [List.getElem_take] at e
  exact e
theorem drop_mem {es : List Ent} {p : Nat} {x : Ent} (h : x ∈ es.drop p) : ∃ k, p ≤ k ∧ k < es.length ∧ es.getD k default = x := by
  obtain ⟨k, hk, e⟩ := List.mem_iff_getElem.1 h
  have hk' : p + k < es.length := by rw [List.length_drop] at hk; omega
  refine ⟨p + k, by omega, hk', ?_⟩
  rw [List.getD_eq_getElem?_getD, List.getElem?_eq_getElem hk']
  rw [List.getElem_drop] at e
  exact e
theorem srt_ins {es : List Ent} {t : List UInt8} {p m : Nat} {cs : List SV} (h : Srt es) (hp : PosAt es t p) (hat : isAt es t p = false) : Srt (insE es p (t, m, cs)) := by
  have hgt : ∀ x ∈ es.drop p, Lib.compareBytes t x.1 < 0 := by
    intro x hx
    obtain ⟨k, h1, h2, rfl⟩ := drop_mem hx
    have hk := hp.hi k h1 h2
    unfold cmpAt at hk
    rw [cb_swap]
    have hne : Lib.compareBytes (es.getD k default).1 t ≠ 0 := by
      intro e0
      by_cases hkp : k = p
      · subst hkp
        unfold isAt cmpAt at hat
        rw [decide_eq_true h2, Bool.true_and, e0] at hat
        cases hat
      · have hlt : Lib.compareBytes (es.getD p default).1 (es.getD k default).1 < 0 := by
          have := List.pairwise_iff_getElem.1 h p k (by omega) h2 (by omega)
          rw [List.getD_eq_getElem?_getD, List.getElem?_eq_getElem (show p < es.length by omega), List.getD_eq_getElem?_getD, List.getElem?_eq_getElem h2]
          exact this
        have hp' := hp.hi p (Nat.le_refl _) (by omega)
        unfold cmpAt at hp'
        rw [cmp_zero0 e0] at hlt
        exact hp' hlt
    omega
  unfold Srt insE
  rw [List.pairwise_append, List.pairwise_cons]
  refine ⟨List.Pairwise.sublist (List.take_sublist p es) h, ⟨hgt, List.Pairwise.sublist (List.drop_sublist p es) h⟩, fun a ha b hb => ?_⟩
  obtain ⟨k, h1, h2, rfl⟩ := take_mem ha
  have hk := hp.lo k h1
  unfold cmpAt at hk
  rcases List.mem_cons.1 hb with rfl | hb
  · exact hk
  · exact cb_trans hk (hgt b hb)
theorem pos_drop {es : List Ent} {t : List UInt8} {p : Nat} (h : Srt es) (hp : PosAt es t p) (hlt : p < es.length) (hn : (es.getD p default).1 = t) : PosAt (es.take p ++ es.drop (p + 1)) t p ∧ isAt (es.take p ++ es.drop (p + 1)) t p = false := by
  have hl : (es.take p).length = p := by rw [List.length_take]; omega
  have lo : ∀ k, k < p → (es.take p ++ es.drop (p + 1)).getD k default = es.getD k default := fun k hk => by
    rw [List.getD_eq_getElem?_getD, List.getElem?_append_left (by omega), List.getElem?_take_of_lt hk, ← List.getD_eq_getElem?_getD]
  have hi : ∀ k, p ≤ k → (es.take p ++ es.drop (p + 1)).getD k default = es.getD (k + 1) default := fun k hk => by
    rw [List.getD_eq_getElem?_getD, List.getElem?_append_right (by omega), hl, List.getElem?_drop, show p + 1 + (k - p) = k + 1 by omega, ← List.getD_eq_getElem?_getD]
  have hlen : (es.take p ++ es.drop (p + 1)).length = es.length - 1 := by rw [List.length_append, hl, List.length_drop]; omega
  have gt : ∀ k, p ≤ k → k + 1 < es.length → 0 < Lib.compareBytes (es.getD (k + 1) default).1 t := fun k hk hk2 => by
    have := List.pairwise_iff_getElem.1 h p (k + 1) (by omega) hk2 (by omega)
    rw [cb_swap, ← hn, List.getD_eq_getElem?_getD, List.getElem?_eq_getElem (show p < es.length by omega), List.getD_eq_getElem?_getD, List.getElem?_eq_getElem hk2]
    simp only [Option.getD_some]
    omega
  refine ⟨⟨by omega, fun k hk => ?_, fun k hk hk2 => ?_⟩, ?_⟩
  · have := hp.lo k hk
    unfold cmpAt at this ⊢
    rw [lo k hk]
    exact this
  · unfold cmpAt
    rw [hi k hk]
    have := gt k hk (by omega)
    omega
  · unfold isAt cmpAt
    by_cases h2 : p < es.length - 1
    · rw [hlen, decide_eq_true h2, Bool.true_and, hi p (Nat.le_refl _)]
      have := gt p (Nat.le_refl _) (by omega)
      rw [beq_eq_false_iff_ne]
      omega
    · rw [hlen, decide_eq_false h2, Bool.false_and]
theorem srt_set {es : List Ent} {t : List UInt8} {p m : Nat} {cs : List SV} (h : Srt es) (hn : (es.getD p default).1 = t) (hp : p < es.length) : Srt (es.set p (t, m, cs)) := by
  have e : (es.set p (t, m, cs)).map (·.1) = es.map (·.1) := by
    rw [List.map_set]
    refine List.ext_getElem? fun k => ?_
    rw [List.getElem?_set]
    split
    · rename_i e
      subst e
      rw [if_pos (by simpa using hp), List.getElem?_map, List.getElem?_eq_getElem hp]
      rw [List.getD_eq_getElem?_getD, List.getElem?_eq_getElem hp] at hn
      simpa using hn.symm
    · rfl
  unfold Srt at h ⊢
  have h1 := (List.pairwise_map (f := fun e : Ent => e.1) (R := fun a b => Lib.compareBytes a b < 0)).2 h
  rw [← e] at h1
  exact (List.pairwise_map (f := fun e : Ent => e.1) (R := fun a b => Lib.compareBytes a b < 0)).1 h1
end Go.Proofs.YticocojomlfhgaaGreatDoor
namespace Go.Proofs.YticocojomlfhgaaGreatDoor
open Go.Ev
section
variable {ops : Array Oper} {l : List Oper} {dst : Option Nat} {st : St} {Q : St → Prop} {d g p : Nat} {es : List Ent} {t : List UInt8} {D : Int}
theorem sess_Set_any {m : Nat} {cs rs : List SV} (ht : t.length ≤ 1048576) (h16 : es.length ≤ 16) (hs : Srt es) (hc : m ≤ 256 → Go.Ev.Fn CX 33 [.sl m cs] (.sl m rs)) (h : SessR st d g es D)
    (k : ∀ st' es' z, Keep st st' → SessR st' d g es' D → Srt es' → es'.length ≤ 16 → WO CX false ops l (st'.putO dst (.sv (.int .i64 z))) Q) :
    WN CX ops l dst st Q 11 [.ptr d g 0, .sv (.str (bs t)), .sv (.sl m cs)] := by
  cases hn : nameP t with
  | false => exact sess_Set_name ht hn h fun st' hk hr => k st' es _ hk hr hs h16
  | true =>
    obtain ⟨p, hp⟩ := pos_ex hs t
    by_cases hm : 256 < m
    · exact sess_Set_long ht hn hp (by omega) hm h fun st' hk hr => k st' es _ hk hr hs h16
    cases hat : isAt es t p with
    | true =>
      have hlt : p < es.length := by
        have h2 := hat
        unfold isAt at h2
        rw [Bool.and_eq_true] at h2
        exact of_decide_eq_true h2.1
      exact sess_Set_at ht hn hp (by omega) (by omega) hat (hc (by omega)) (.inl rfl) h fun st' hk hr => k st' _ _ hk hr (srt_set hs (name_at hat) hlt) (by rw [List.length_set]; exact h16)
    | false =>
      by_cases hf : es.length < 16
      · exact sess_Set_new ht hn hp hat hf (by omega) (hc (by omega)) (.inl rfl) h fun st' hk hr => k st' _ _ hk hr (srt_ins hs hp hat) (by rw [insE_len hp.le]; omega)
      · exact sess_Set_full ht hn hp (by omega) (by omega) hat (.inl rfl) h fun st' hk hr => k st' es _ hk hr hs h16
theorem sess_Drop_any (hl : es.length ≤ 16) (hs : Srt es) (h : SessR st d g es D)
    (k : ∀ st' es' z, Keep st st' → SessR st' d g es' D → Srt es' → es'.length ≤ 16 → (∃ p, PosAt es' t p ∧ isAt es' t p = false) → WO CX false ops l (st'.putO dst (.sv (.int .i64 z))) Q) :
    WN CX ops l dst st Q 19 [.ptr d g 0, .sv (.str (bs t))] := by
  obtain ⟨p, hp⟩ := pos_ex hs t
  cases hat : isAt es t p with
  | true =>
    have hlt : p < es.length := by
      have h2 := hat
      unfold isAt at h2
      rw [Bool.and_eq_true] at h2
      exact of_decide_eq_true h2.1
    exact sess_Drop_at hp (by omega) hat h fun st' hk hr => k st' _ _ hk hr (srt_drop hs p) (by rw [List.length_append, List.length_take, List.length_drop]; omega) ⟨p, pos_drop hs hp hlt (name_at hat)⟩
  | false => exact sess_Drop_none hp (by omega) hat h fun st' hk hr => k st' es _ hk hr hs hl ⟨p, hp, hat⟩
theorem sess_Let_any {x : List UInt8} (ht : t.length ≤ 1048576) (hx : x.length ≤ 100000) (h16 : es.length ≤ 16) (hs : Srt es) (h : SessR st d g es D)
    (k : ∀ st' es' z, Keep st st' → SessR st' d g es' D → Srt es' → es'.length ≤ 16 → WO CX false ops l (st'.putO dst (.sv (.int .i64 z))) Q) :
    WN CX ops l dst st Q 18 [.ptr d g 0, .sv (.str (bs t)), .sv (.str (bs x))] := by
  cases hn : nameP t with
  | false => exact sess_Let_name ht hn h fun st' hk hr => k st' es _ hk hr hs h16
  | true =>
    have nm := sess_Name t ht
    rw [hn] at nm
    have hP := data_Parse x hx
    have hz : ∀ q ∈ (parseP x).2, szR q 500 := parse_sz
    have hd' : 2000000 ≤ d := h.ob
    generalize parseP x = r at *
    obtain ⟨e, qs⟩ := r
    have hc : qs.length ≤ 256 → Go.Ev.Fn CX 33 [.sl qs.length (rvsC qs)] (.sl qs.length (rvsC qs)) := fun hm => sess_copied (rvsC_row (L := 500) qs hz) (by omega) (by omega) (by omega)
    refine wn_of (fn := Tryz.f18) (body := (Tryz.f18).body.get!) (by kernel_rfl) (by kernel_rfl) (by kernel_rfl) (Nat.le_of_ble_eq_true (by kernel_rfl)) ?_; unfold Tryz.f18; simp only [Option.get!_some]
    by_cases he : e = 0
    · subst he
      repeat (first | (simp only [go_sem, hd', Bool.not_true]) | (simp (disch := (first | omega | (simp only [AL, List.length_map]; omega))) only [AR, AL, ifT, ifF, take_all, List.length_cons, List.length_nil, Int.reduceToNat, Int.reducePow, Nat.reducePow, hd', Bool.not_true]) | (refine wk_intro (by kernel_rfl) ?_) | (refine wq_no (by kernel_rfl) ?_) | (refine vf_of (by first | exact nm | exact hP) ?_))
      refine sess_Set_any ht h16 hs hc (h.of rfl (fun _ => rfl) (Nat.le_refl _)) ?_
      intro s1 es1 z hk hs1 hr1 hl1
      repeat (first | (simp only [go_sem]) | (simp (disch := (first | omega | (simp only [AL, List.length_map]; omega))) only [AR, AL, ifT, ifF, take_all, List.length_cons, List.length_nil, Int.reduceToNat, Int.reducePow, Nat.reducePow]) | (refine wk_intro (by kernel_rfl) ?_) | (refine wq_no (by kernel_rfl) ?_))
      exact k _ _ _ (keep_of (vs := [.ptr d g 0, .sv (.str (bs t)), .sv (.str (bs x))]) fun u huu => hk.up u huu) (hs1.of rfl (fun _ => rfl) (Nat.le_refl _)) hr1 hl1
    · repeat (first | (simp only [go_sem, hd']) | (simp (disch := (first | omega | (simp only [AL, List.length_map]; omega))) only [AR, AL, ifT, ifF, take_all, List.length_cons, List.length_nil, Int.reduceToNat, Int.reducePow, Nat.reducePow, hd']) | (refine wk_intro (by kernel_rfl) ?_) | (refine wq_no (by kernel_rfl) ?_))
      repeat (first | (simp only [go_sem, hd', Bool.not_true]) | (simp (disch := (first | omega | (simp only [AL, List.length_map]; omega))) only [AR, AL, ifT, ifF, take_all, List.length_cons, List.length_nil, Int.reduceToNat, Int.reducePow, Nat.reducePow, hd', Bool.not_true]) | (refine wk_intro (by kernel_rfl) ?_) | (refine wq_no (by kernel_rfl) ?_) | (refine vf_of (by first | exact nm | exact hP) ?_))
      exact k _ _ _ (keep_of (vs := []) fun u huu => rfl) (h.of rfl (fun _ => rfl) (Nat.le_refl _)) hs h16
end
end Go.Proofs.YticocojomlfhgaaGreatDoor
namespace Go.Proofs.YticocojomlfhgaaGreatDoor
open Go.Ev
end Go.Proofs.YticocojomlfhgaaGreatDoor
namespace Go.Proofs.YticocojomlfhgaaGreatDoor
open Go.Ev
theorem long_ex {acs : List ActI} {i : Nat} (h : (acs.take 60).any longA = false) (hi : i < acs.length) (h60 : i < 60) : longA (acs.getD i default) = false := by
  have h2 := List.any_eq_false.1 h (acs.getD i default) (by
    rw [List.mem_iff_getElem]
    refine ⟨i, by rw [List.length_take]; omega, ?_⟩
    rw [List.getElem_take, List.getD_eq_getElem?_getD, List.getElem?_eq_getElem hi]
    rfl)
  cases e : longA (acs.getD i default) with
  | false => rfl
  | true => exact absurd e h2
theorem longA_parts {a : ActI} (h : longA a = false) : a.t.length ≤ 60 ∧ a.x.length ≤ 300 ∧ a.ps.length ≤ 300 ∧ a.ps.any big3 = false := by
  unfold longA at h
  rw [Bool.or_eq_false_iff, Bool.or_eq_false_iff, Bool.or_eq_false_iff] at h
  have h1 := of_decide_eq_false h.1
  have h2 := of_decide_eq_false h.2.1
  have h3 := of_decide_eq_false h.2.2.1
  exact ⟨by omega, by omega, by omega, h.2.2.2⟩
theorem nam_at : ∀ {es : List Ent} {k : Nat}, k < es.length → (namC es).drop k = .str (bs (es.getD k default).1) :: (namC es).drop (k + 1)
  | e :: es, 0, _ => rfl
  | e :: es, k + 1, h => by
    have := nam_at (es := es) (k := k) (by simpa using h)
    exact this
def NR (v : TV) : Prop := v = .undef ∨ ∃ x, v = .sv x
theorem nr_pl {v : TV} (h : NR v) : plV v = true := by rcases h with rfl | ⟨x, rfl⟩ <;> rfl
theorem rises_law (s0 : SV) (sh0 : ShpT Tryz.prog 7 42 [s0]) : Go.Ev.Fn CX 5 [s0] (.bool true) := by
  obtain ⟨acs, e0, hlen, hall⟩ := shp_acts (n := 1) sh0
  cases e0
  have hK := law22_known
  have hN := sess_New
  have hL := law22_long acs
  cases hlo : (acs.take 60).any longA with
  | true =>
    rw [hlo] at hL
    refine Go.Ev.Fn.intro (fn := Tryz.f5) (body := (Tryz.f5).body.get!) (by kernel_rfl) (by kernel_rfl) (by kernel_rfl) (fun _ => rfl) (Nat.le_of_ble_eq_true (by kernel_rfl)) ?_; unfold Tryz.f5; simp only [Option.get!_some]
    repeat (first | (simp only [go_sem]) | (simp (disch := (first | omega | (simp only [AL, List.length_map]; omega))) only [AR, AL, ifT, ifF, take_all, List.length_cons, List.length_nil, Int.reduceToNat, Int.reducePow, Nat.reducePow]) | (refine wk_intro (by kernel_rfl) ?_) | (refine wq_no (by decide +kernel) ?_) | (refine vp_draw (id := 11) (l := []) (by kernel_rfl) ?_) | (refine vp_draw (id := 13) (l := [55]) (by kernel_rfl) ?_) | (refine vp_draw (id := 23) (l := []) (by kernel_rfl) ?_) | (refine vf_of (by first | exact hL) ?_))
  | false =>
    rw [hlo] at hL
    have hal := actsC_len acs
    refine Go.Ev.Fn.intro (fn := Tryz.f5) (body := (Tryz.f5).body.get!) (by kernel_rfl) (by kernel_rfl) (by kernel_rfl) (fun _ => rfl) (Nat.le_of_ble_eq_true (by kernel_rfl)) ?_; unfold Tryz.f5; simp only [Option.get!_some]
    repeat (first | (simp only [go_sem]) | (simp (disch := (first | omega | (simp only [AL, List.length_map]; omega))) only [AR, AL, ifT, ifF, take_all, List.length_cons, List.length_nil, Int.reduceToNat, Int.reducePow, Nat.reducePow]) | (refine wk_intro (by kernel_rfl) ?_) | (refine wq_no (by decide +kernel) ?_) | (refine vp_draw (id := 11) (l := []) (by kernel_rfl) ?_) | (refine vp_draw (id := 13) (l := [55]) (by kernel_rfl) ?_) | (refine vp_draw (id := 23) (l := []) (by kernel_rfl) ?_) | (refine vf_of (by first | exact hL) ?_))
    refine vf_heap hN ?_
    repeat (first | (simp only [go_sem]) | (simp (disch := (first | omega | (simp only [AL, List.length_map]; omega))) only [AR, AL, ifT, ifF, take_all, List.length_cons, List.length_nil, Int.reduceToNat, Int.reducePow, Nat.reducePow]) | (refine wk_intro (by kernel_rfl) ?_) | (refine wq_no (by decide +kernel) ?_) | (refine vp_draw (id := 11) (l := []) (by kernel_rfl) ?_) | (refine vp_draw (id := 13) (l := [55]) (by kernel_rfl) ?_) | (refine vp_draw (id := 23) (l := []) (by kernel_rfl) ?_))
    refine vp_loop_inv (fun s => s.tmp 0 = .sv (.sl acs.length (actsC acs)) ∧ s.tmp 3 = .ptr 2000011 1 0 ∧ NR (s.tmp 55) ∧ ∃ i : Nat, s.tmp 4 = .sv (.int .i64 (i : Int)) ∧ i ≤ acs.length ∧ i ≤ 60 ∧ ∃ es, SessR s 2000011 1 es 6 ∧ Srt es ∧ es.length ≤ 16)
      (fun s => match s.tmp 4 with | .sv (.int _ i) => acs.length - i.toNat | _ => 0) ?_ ?_
    · exact ⟨rfl, rfl, .inl rfl, 0, rfl, by omega, by omega, [], ⟨by decide, .inl ⟨rfl, rfl⟩⟩, List.Pairwise.nil, by simp⟩
    rintro s ⟨i0, i3, h55, i, i4, hi, hi60, es, hS, hs, h16⟩
    by_cases hend : i = acs.length
    · subst hend
      repeat (first | (simp only [go_sem, i0, i3, i4]) | (simp (disch := (first | omega | (simp only [AL, List.length_map]; omega))) only [AR, AL, ifT, ifF, take_all, List.length_cons, List.length_nil, Int.reduceToNat, Int.reducePow, Nat.reducePow, i0, i3, i4]) | (refine wk_intro (by kernel_rfl) ?_) | (refine wq_no (by decide +kernel) ?_) | (refine vp_draw (id := 11) (l := []) (by kernel_rfl) ?_) | (refine vp_draw (id := 13) (l := [55]) (by kernel_rfl) ?_) | (refine vp_draw (id := 23) (l := []) (by kernel_rfl) ?_) | (refine vf_of (by first | exact hK) ?_))
    by_cases h60 : i = 60
    · subst h60
      repeat (first | (simp only [go_sem, i0, i3, i4]) | (simp (disch := (first | omega | (simp only [AL, List.length_map]; omega))) only [AR, AL, ifT, ifF, take_all, List.length_cons, List.length_nil, Int.reduceToNat, Int.reducePow, Nat.reducePow, i0, i3, i4]) | (refine wk_intro (by kernel_rfl) ?_) | (refine wq_no (by decide +kernel) ?_) | (refine vp_draw (id := 11) (l := []) (by kernel_rfl) ?_) | (refine vp_draw (id := 13) (l := [55]) (by kernel_rfl) ?_) | (refine vp_draw (id := 23) (l := []) (by kernel_rfl) ?_) | (refine vf_of (by first | exact hK) ?_))
    obtain ⟨rest, g1⟩ := act_at (acs := acs) (i := i) (by omega)
    obtain ⟨q1, q2, q3, q4⟩ := longA_parts (long_ex hlo (i := i) (by omega) (by omega))
    have hok : ∀ p ∈ (acs.getD i default).ps, p.ok := by
      refine (hall _ ?_).2
      rw [List.getD_eq_getElem?_getD, List.getElem?_eq_getElem (by omega)]
      exact List.getElem_mem _
    have hrow := big3_row q4 hok
    generalize acs.getD i default = a at *
    have hc : a.ps.length ≤ 256 → Go.Ev.Fn CX 33 [.sl a.ps.length (ratsC a.ps)] (.sl a.ps.length (rvsC (a.ps.map InR.q))) := fun hm => by
      have := sess_copied hrow (by omega) (by omega) (by rw [List.length_map]; omega)
      rw [List.length_map] at this
      exact this
    repeat (first | (simp only [go_sem, i0, i3, i4, g1, hal, List.drop_succ_cons, List.drop_zero, List.head?_cons]) | (simp (disch := (first | omega | (simp only [AL, List.length_map]; omega))) only [AR, AL, ifT, ifF, take_all, List.length_cons, List.length_nil, Int.reduceToNat, Int.reducePow, Nat.reducePow, i0, i3, i4, g1, hal, List.drop_succ_cons, List.drop_zero, List.head?_cons]) | (refine wk_intro (by kernel_rfl) ?_) | (refine wq_no (by decide +kernel) ?_) | (refine vp_draw (id := 11) (l := []) (by kernel_rfl) ?_) | (refine vp_draw (id := 13) (l := [55]) (by kernel_rfl) ?_) | (refine vp_draw (id := 23) (l := []) (by kernel_rfl) ?_))
    refine vc_cut (Mid := fun s => s.tmp 0 = .sv (.sl acs.length (actsC acs)) ∧ s.tmp 3 = .ptr 2000011 1 0 ∧ s.tmp 4 = .sv (.int .i64 (i : Int)) ∧ NR (s.tmp 55) ∧ ∃ es, SessR s 2000011 1 es 6 ∧ Srt es ∧ es.length ≤ 16) ?_ ?_
    · by_cases k1 : a.k = 1
      · have e1 : (a.k == 1) = true := by rw [k1]; rfl
        repeat (first | (simp only [go_sem, e1, i0, i3, i4, g1, hal, List.drop_succ_cons, List.drop_zero, List.head?_cons]) | (simp (disch := (first | omega | (simp only [AL, List.length_map]; omega))) only [AR, AL, ifT, ifF, take_all, List.length_cons, List.length_nil, Int.reduceToNat, Int.reducePow, Nat.reducePow, e1, i0, i3, i4, g1, hal, List.drop_succ_cons, List.drop_zero, List.head?_cons]) | (refine wk_intro (by kernel_rfl) ?_) | (refine wq_no (by decide +kernel) ?_) | (refine vp_draw (id := 11) (l := []) (by kernel_rfl) ?_) | (refine vp_draw (id := 13) (l := [55]) (by kernel_rfl) ?_) | (refine vp_draw (id := 23) (l := []) (by kernel_rfl) ?_))
        refine wq_yes (by kernel_rfl) (wns_of muF_in10 (sess_Let_any (D := 6) (t := a.t) (x := a.x) (by omega) (by omega) h16 hs (hS.of rfl (fun _ => rfl) (Nat.le_refl _)) ?_))
        intro s1 es1 z hk hs1 hr1 hl1
        have j0 : s1.tmp 0 = .sv (.sl acs.length (actsC acs)) := (hk.tmp 0 (by simp only [tmp_put, reduceIte, Nat.reduceEqDiff, i0]; rfl)).trans (by simp only [tmp_put, reduceIte, Nat.reduceEqDiff, i0])
        have j3 : s1.tmp 3 = .ptr 2000011 1 0 := (hk.tmp 3 (by simp only [tmp_put, reduceIte, Nat.reduceEqDiff, i3]; rfl)).trans (by simp only [tmp_put, reduceIte, Nat.reduceEqDiff, i3])
        have j4 : s1.tmp 4 = .sv (.int .i64 (i : Int)) := (hk.tmp 4 (by simp only [tmp_put, reduceIte, Nat.reduceEqDiff, i4]; rfl)).trans (by simp only [tmp_put, reduceIte, Nat.reduceEqDiff, i4])
        have j5 : s1.tmp 55 = s.tmp 55 := (hk.tmp 55 (by simp only [tmp_put, reduceIte, Nat.reduceEqDiff]; exact nr_pl h55)).trans (by simp only [tmp_put, reduceIte, Nat.reduceEqDiff])
        clear hk hS
        repeat (first | (simp only [go_sem, j0, j3, j4, j5]) | (simp (disch := (first | omega | (simp only [AL, List.length_map]; omega))) only [AR, AL, ifT, ifF, take_all, List.length_cons, List.length_nil, Int.reduceToNat, Int.reducePow, Nat.reducePow, j0, j3, j4, j5]) | (refine wk_intro (by kernel_rfl) ?_) | (refine wq_no (by decide +kernel) ?_) | (refine vp_draw (id := 11) (l := []) (by kernel_rfl) ?_) | (refine vp_draw (id := 13) (l := [55]) (by kernel_rfl) ?_) | (refine vp_draw (id := 23) (l := []) (by kernel_rfl) ?_))
        exact ⟨h55, es1, hs1.of rfl (fun _ => rfl) (Nat.le_refl _), hr1, hl1⟩
      by_cases k2 : a.k = 2
      · have e1 : (a.k == 1) = false := beq_eq_false_iff_ne.2 k1
        have e2 : (a.k == 2) = true := by rw [k2]; rfl
        have p55 := nr_pl h55
        rcases h55 with h55 | ⟨x, h55⟩
        all_goals
          repeat (first | (simp only [go_sem, e1, e2, h55, i0, i3, i4, g1, hal, List.drop_succ_cons, List.drop_zero, List.head?_cons]) | (simp (disch := (first | omega | (simp only [AL, List.length_map]; omega))) only [AR, AL, ifT, ifF, take_all, List.length_cons, List.length_nil, Int.reduceToNat, Int.reducePow, Nat.reducePow, e1, e2, h55, i0, i3, i4, g1, hal, List.drop_succ_cons, List.drop_zero, List.head?_cons]) | (refine wk_intro (by kernel_rfl) ?_) | (refine wq_no (by decide +kernel) ?_) | (refine vp_draw (id := 11) (l := []) (by kernel_rfl) ?_) | (refine vp_draw (id := 13) (l := [55]) (by kernel_rfl) ?_) | (refine vp_draw (id := 23) (l := []) (by kernel_rfl) ?_))
          refine wq_yes (by kernel_rfl) (wns_of muF_in7 (sess_Set_any (D := 6) (t := a.t) (by omega) h16 hs hc (hS.of rfl (fun _ => rfl) (Nat.le_refl _)) ?_))
          intro s1 es1 z hk hs1 hr1 hl1
          have j0 : s1.tmp 0 = .sv (.sl acs.length (actsC acs)) := (hk.tmp 0 (by simp only [tmp_put, reduceIte, Nat.reduceEqDiff, i0]; rfl)).trans (by simp only [tmp_put, reduceIte, Nat.reduceEqDiff, i0])
          have j3 : s1.tmp 3 = .ptr 2000011 1 0 := (hk.tmp 3 (by simp only [tmp_put, reduceIte, Nat.reduceEqDiff, i3]; rfl)).trans (by simp only [tmp_put, reduceIte, Nat.reduceEqDiff, i3])
          have j4 : s1.tmp 4 = .sv (.int .i64 (i : Int)) := (hk.tmp 4 (by simp only [tmp_put, reduceIte, Nat.reduceEqDiff, i4]; rfl)).trans (by simp only [tmp_put, reduceIte, Nat.reduceEqDiff, i4])
          have j5 : s1.tmp 55 = .sv (rowV a.ps) := (hk.tmp 55 (by simp only [tmp_put, reduceIte, Nat.reduceEqDiff]; rfl)).trans (by simp only [tmp_put, reduceIte, Nat.reduceEqDiff])
          clear hk hS
          repeat (first | (simp only [go_sem, j0, j3, j4, j5]) | (simp (disch := (first | omega | (simp only [AL, List.length_map]; omega))) only [AR, AL, ifT, ifF, take_all, List.length_cons, List.length_nil, Int.reduceToNat, Int.reducePow, Nat.reducePow, j0, j3, j4, j5]) | (refine wk_intro (by kernel_rfl) ?_) | (refine wq_no (by decide +kernel) ?_) | (refine vp_draw (id := 11) (l := []) (by kernel_rfl) ?_) | (refine vp_draw (id := 13) (l := [55]) (by kernel_rfl) ?_) | (refine vp_draw (id := 23) (l := []) (by kernel_rfl) ?_))
          exact ⟨.inr ⟨_, rfl⟩, es1, hs1.of rfl (fun _ => rfl) (Nat.le_refl _), hr1, hl1⟩
      by_cases k3 : a.k = 3
      · have e1 : (a.k == 1) = false := beq_eq_false_iff_ne.2 k1
        have e2 : (a.k == 2) = false := beq_eq_false_iff_ne.2 k2
        have e3 : (a.k == 3) = true := by rw [k3]; rfl
        repeat (first | (simp only [go_sem, e1, e2, e3, i0, i3, i4, g1, hal, List.drop_succ_cons, List.drop_zero, List.head?_cons]) | (simp (disch := (first | omega | (simp only [AL, List.length_map]; omega))) only [AR, AL, ifT, ifF, take_all, List.length_cons, List.length_nil, Int.reduceToNat, Int.reducePow, Nat.reducePow, e1, e2, e3, i0, i3, i4, g1, hal, List.drop_succ_cons, List.drop_zero, List.head?_cons]) | (refine wk_intro (by kernel_rfl) ?_) | (refine wq_no (by decide +kernel) ?_) | (refine vp_draw (id := 11) (l := []) (by kernel_rfl) ?_) | (refine vp_draw (id := 13) (l := [55]) (by kernel_rfl) ?_) | (refine vp_draw (id := 23) (l := []) (by kernel_rfl) ?_))
        refine sess_Drop_any (D := 6) h16 hs (hS.of rfl (fun _ => rfl) (Nat.le_refl _)) ?_
        intro s1 es1 z hk hs1 hr1 hl1 hno
        obtain ⟨p, hp, hat⟩ := hno
        have j0 : s1.tmp 0 = .sv (.sl acs.length (actsC acs)) := (hk.tmp 0 (by simp only [tmp_put, reduceIte, Nat.reduceEqDiff, i0]; rfl)).trans (by simp only [tmp_put, reduceIte, Nat.reduceEqDiff, i0])
        have j3 : s1.tmp 3 = .ptr 2000011 1 0 := (hk.tmp 3 (by simp only [tmp_put, reduceIte, Nat.reduceEqDiff, i3]; rfl)).trans (by simp only [tmp_put, reduceIte, Nat.reduceEqDiff, i3])
        have j4 : s1.tmp 4 = .sv (.int .i64 (i : Int)) := (hk.tmp 4 (by simp only [tmp_put, reduceIte, Nat.reduceEqDiff, i4]; rfl)).trans (by simp only [tmp_put, reduceIte, Nat.reduceEqDiff, i4])
        have j5 : s1.tmp 55 = s.tmp 55 := (hk.tmp 55 (by simp only [tmp_put, reduceIte, Nat.reduceEqDiff]; exact nr_pl h55)).trans (by simp only [tmp_put, reduceIte, Nat.reduceEqDiff])
        clear hk hS
        repeat (first | (simp only [go_sem, j0, j3, j4, j5, g1, hal, List.drop_succ_cons, List.drop_zero, List.head?_cons]) | (simp (disch := (first | omega | (simp only [AL, List.length_map]; omega))) only [AR, AL, ifT, ifF, take_all, List.length_cons, List.length_nil, Int.reduceToNat, Int.reducePow, Nat.reducePow, j0, j3, j4, j5, g1, hal, List.drop_succ_cons, List.drop_zero, List.head?_cons]) | (refine wk_intro (by kernel_rfl) ?_) | (refine wq_no (by decide +kernel) ?_) | (refine vp_draw (id := 11) (l := []) (by kernel_rfl) ?_) | (refine vp_draw (id := 13) (l := [55]) (by kernel_rfl) ?_) | (refine vp_draw (id := 23) (l := []) (by kernel_rfl) ?_))
        refine sess_Get_none (D := 6) hp (by omega) hat (hs1.of rfl (fun _ => rfl) (Nat.le_refl _)) ?_
        intro s2 hk hs2
        have m0 : s2.tmp 0 = .sv (.sl acs.length (actsC acs)) := (hk.tmp 0 (by simp only [tmp_put, reduceIte, Nat.reduceEqDiff, j0]; rfl)).trans (by simp only [tmp_put, reduceIte, Nat.reduceEqDiff, j0])
        have m3 : s2.tmp 3 = .ptr 2000011 1 0 := (hk.tmp 3 (by simp only [tmp_put, reduceIte, Nat.reduceEqDiff, j3]; rfl)).trans (by simp only [tmp_put, reduceIte, Nat.reduceEqDiff, j3])
        have m4 : s2.tmp 4 = .sv (.int .i64 (i : Int)) := (hk.tmp 4 (by simp only [tmp_put, reduceIte, Nat.reduceEqDiff, j4]; rfl)).trans (by simp only [tmp_put, reduceIte, Nat.reduceEqDiff, j4])
        have m5 : s2.tmp 55 = s.tmp 55 := (hk.tmp 55 (by simp only [tmp_put, reduceIte, Nat.reduceEqDiff, j5]; exact nr_pl h55)).trans (by simp only [tmp_put, reduceIte, Nat.reduceEqDiff, j5])
        repeat (first | (simp only [go_sem, m0, m3, m4, m5]) | (simp (disch := (first | omega | (simp only [AL, List.length_map]; omega))) only [AR, AL, ifT, ifF, take_all, List.length_cons, List.length_nil, Int.reduceToNat, Int.reducePow, Nat.reducePow, m0, m3, m4, m5]) | (refine wk_intro (by kernel_rfl) ?_) | (refine wq_no (by decide +kernel) ?_) | (refine vp_draw (id := 11) (l := []) (by kernel_rfl) ?_) | (refine vp_draw (id := 13) (l := [55]) (by kernel_rfl) ?_) | (refine vp_draw (id := 23) (l := []) (by kernel_rfl) ?_))
        exact ⟨h55, es1, hs2.of rfl (fun _ => rfl) (Nat.le_refl _), hr1, hl1⟩
      · have e1 : (a.k == 1) = false := beq_eq_false_iff_ne.2 k1
        have e2 : (a.k == 2) = false := beq_eq_false_iff_ne.2 k2
        have e3 : (a.k == 3) = false := beq_eq_false_iff_ne.2 k3
        repeat (first | (simp only [go_sem, e1, e2, e3, i0, i3, i4, g1, hal, List.drop_succ_cons, List.drop_zero, List.head?_cons]) | (simp (disch := (first | omega | (simp only [AL, List.length_map]; omega))) only [AR, AL, ifT, ifF, take_all, List.length_cons, List.length_nil, Int.reduceToNat, Int.reducePow, Nat.reducePow, e1, e2, e3, i0, i3, i4, g1, hal, List.drop_succ_cons, List.drop_zero, List.head?_cons]) | (refine wk_intro (by kernel_rfl) ?_) | (refine wq_no (by decide +kernel) ?_) | (refine vp_draw (id := 11) (l := []) (by kernel_rfl) ?_) | (refine vp_draw (id := 13) (l := [55]) (by kernel_rfl) ?_) | (refine vp_draw (id := 23) (l := []) (by kernel_rfl) ?_))
        exact ⟨h55, es, (hS.of rfl (fun _ => rfl) (Nat.le_refl _)), hs, h16⟩
    · clear hS hs h16 i0 i3 i4 h55 g1
      rintro s1 ⟨i0, i3, i4, h55, es, hS, hs, h16⟩
      repeat (first | (simp only [go_sem, i0, i3, i4]) | (simp (disch := (first | omega | (simp only [AL, List.length_map]; omega))) only [AR, AL, ifT, ifF, take_all, List.length_cons, List.length_nil, Int.reduceToNat, Int.reducePow, Nat.reducePow, i0, i3, i4]) | (refine wk_intro (by kernel_rfl) ?_) | (refine wq_no (by decide +kernel) ?_) | (refine vp_draw (id := 11) (l := []) (by kernel_rfl) ?_) | (refine vp_draw (id := 13) (l := [55]) (by kernel_rfl) ?_) | (refine vp_draw (id := 23) (l := []) (by kernel_rfl) ?_))
      refine sess_Names (D := 6) (by omega) (hS.of rfl (fun _ => rfl) (Nat.le_refl _)) ?_
      intro s2 tv hk hs2 htv
      have j0 : s2.tmp 0 = .sv (.sl acs.length (actsC acs)) := (hk.tmp 0 (by simp only [tmp_put, reduceIte, Nat.reduceEqDiff, i0]; rfl)).trans (by simp only [tmp_put, reduceIte, Nat.reduceEqDiff, i0])
      have j3 : s2.tmp 3 = .ptr 2000011 1 0 := (hk.tmp 3 (by simp only [tmp_put, reduceIte, Nat.reduceEqDiff, i3]; rfl)).trans (by simp only [tmp_put, reduceIte, Nat.reduceEqDiff, i3])
      have j4 : s2.tmp 4 = .sv (.int .i64 (i : Int)) := (hk.tmp 4 (by simp only [tmp_put, reduceIte, Nat.reduceEqDiff, i4]; rfl)).trans (by simp only [tmp_put, reduceIte, Nat.reduceEqDiff, i4])
      have j5 : s2.tmp 55 = s1.tmp 55 := (hk.tmp 55 (by simp only [tmp_put, reduceIte, Nat.reduceEqDiff]; exact nr_pl h55)).trans (by simp only [tmp_put, reduceIte, Nat.reduceEqDiff])
      clear hk hS
      rcases htv with ⟨hE0, rfl⟩ | ⟨g', hg0, rfl, hN⟩
      · repeat (first | (simp only [go_sem, j0, j3, j4]) | (simp (disch := (first | omega | (simp only [AL, List.length_map]; omega))) only [AR, AL, ifT, ifF, take_all, List.length_cons, List.length_nil, Int.reduceToNat, Int.reducePow, Nat.reducePow, j0, j3, j4]) | (refine wk_intro (by kernel_rfl) ?_) | (refine wq_no (by decide +kernel) ?_) | (refine vp_draw (id := 11) (l := []) (by kernel_rfl) ?_) | (refine vp_draw (id := 13) (l := [55]) (by kernel_rfl) ?_) | (refine vp_draw (id := 23) (l := []) (by kernel_rfl) ?_))
        refine vp_loop_inv (fun s => s.tmp 0 = .sv (.sl acs.length (actsC acs)) ∧ s.tmp 3 = .ptr 2000011 1 0 ∧ s.tmp 4 = .sv (.int .i64 (i : Int)) ∧ s.tmp 7 = .nil ∧ s.tmp 8 = .sv (.int .i64 1) ∧ s.tmp 55 = s1.tmp 55 ∧ SessR s 2000011 1 es 6) (fun _ => 0) ?_ ?_
        · exact ⟨j0, j3, j4, rfl, rfl, j5, hs2.of rfl (fun _ => rfl) (Nat.le_refl _)⟩
        rintro s3 ⟨m0, m3, m4, m7, m8, m5, hs3⟩
        repeat (first | (simp only [go_sem, m0, m3, m4, m7, m8, m5]) | (simp (disch := (first | omega | (simp only [AL, List.length_map]; omega))) only [AR, AL, ifT, ifF, take_all, List.length_cons, List.length_nil, Int.reduceToNat, Int.reducePow, Nat.reducePow, m0, m3, m4, m7, m8, m5]) | (refine wk_intro (by kernel_rfl) ?_) | (refine wq_no (by decide +kernel) ?_) | (refine vp_draw (id := 11) (l := []) (by kernel_rfl) ?_) | (refine vp_draw (id := 13) (l := [55]) (by kernel_rfl) ?_) | (refine vp_draw (id := 23) (l := []) (by kernel_rfl) ?_))
        exact ⟨⟨h55, i + 1, rfl, by omega, by omega, es, hs3.of rfl (fun _ => rfl) (Nat.le_refl _), hs, h16⟩, by omega⟩
      · repeat (first | (simp only [go_sem, j0, j3, j4]) | (simp (disch := (first | omega | (simp only [AL, List.length_map]; omega))) only [AR, AL, ifT, ifF, take_all, List.length_cons, List.length_nil, Int.reduceToNat, Int.reducePow, Nat.reducePow, j0, j3, j4]) | (refine wk_intro (by kernel_rfl) ?_) | (refine wq_no (by decide +kernel) ?_) | (refine vp_draw (id := 11) (l := []) (by kernel_rfl) ?_) | (refine vp_draw (id := 13) (l := [55]) (by kernel_rfl) ?_) | (refine vp_draw (id := 23) (l := []) (by kernel_rfl) ?_))
        have hnl := namC_len es
        refine vp_loop_inv (fun s => s.tmp 0 = .sv (.sl acs.length (actsC acs)) ∧ s.tmp 3 = .ptr 2000011 1 0 ∧ s.tmp 4 = .sv (.int .i64 (i : Int)) ∧ s.tmp 7 = .ref 21 g' 1 0 es.length ∧ s.obj 21 g' = some (namC es) ∧ s.tmp 55 = s1.tmp 55 ∧ SessR s 2000011 1 es 6 ∧ ∃ k : Nat, s.tmp 8 = .sv (.int .i64 (k : Int)) ∧ 1 ≤ k ∧ k ≤ es.length)
          (fun s => match s.tmp 8 with | .sv (.int _ i) => es.length - i.toNat | _ => 0) ?_ ?_
        · exact ⟨j0, j3, j4, rfl, hN, j5, hs2.of rfl (fun _ => rfl) (Nat.le_refl _), 1, rfl, by omega, by omega⟩
        rintro s3 ⟨m0, m3, m4, m7, mN, m5, hs3, k, m8, hk1, hk2⟩
        by_cases hke : k = es.length
        · subst hke
          repeat (first | (simp only [go_sem, m0, m3, m4, m7, m8, m5, mN]) | (simp (disch := (first | omega | (simp only [AL, List.length_map]; omega))) only [AR, AL, ifT, ifF, take_all, List.length_cons, List.length_nil, Int.reduceToNat, Int.reducePow, Nat.reducePow, m0, m3, m4, m7, m8, m5, mN]) | (refine wk_intro (by kernel_rfl) ?_) | (refine wq_no (by decide +kernel) ?_) | (refine vp_draw (id := 11) (l := []) (by kernel_rfl) ?_) | (refine vp_draw (id := 13) (l := [55]) (by kernel_rfl) ?_) | (refine vp_draw (id := 23) (l := []) (by kernel_rfl) ?_))
          exact ⟨⟨h55, i + 1, rfl, by omega, by omega, es, hs3.of rfl (fun _ => rfl) (Nat.le_refl _), hs, h16⟩, by omega⟩
        · have x1 := nam_at (es := es) (k := k) (by omega)
          have x2 := nam_at (es := es) (k := k - 1) (by omega)
          have hlt : Lib.compareBytes (es.getD (k - 1) default).1 (es.getD k default).1 < 0 := by
            have := List.pairwise_iff_getElem.1 hs (k - 1) k (by omega) (by omega) (by omega)
            rw [List.getD_eq_getElem?_getD, List.getElem?_eq_getElem (show k - 1 < es.length by omega), List.getD_eq_getElem?_getD, List.getElem?_eq_getElem (show k < es.length by omega)]
            exact this
          have hls := cb_less (es.getD (k - 1) default).1 (es.getD k default).1
          rw [decide_eq_true hlt] at hls
          generalize (es.getD (k - 1) default).1 = ta at *
          generalize (es.getD k default).1 = tb at *
          repeat (first | (simp only [go_sem, m0, m3, m4, m7, m8, m5, mN, hnl, x1, x2, List.head?_cons, bs_list, hls, Bool.not_true]) | (simp (disch := (first | omega | (simp only [AL, List.length_map]; omega))) only [AR, AL, ifT, ifF, take_all, List.length_cons, List.length_nil, Int.reduceToNat, Int.reducePow, Nat.reducePow, m0, m3, m4, m7, m8, m5, mN, hnl, x1, x2, List.head?_cons, bs_list, hls, Bool.not_true]) | (refine wk_intro (by kernel_rfl) ?_) | (refine wq_no (by decide +kernel) ?_) | (refine vp_draw (id := 11) (l := []) (by kernel_rfl) ?_) | (refine vp_draw (id := 13) (l := [55]) (by kernel_rfl) ?_) | (refine vp_draw (id := 23) (l := []) (by kernel_rfl) ?_))
          exact ⟨⟨hs3.of rfl (fun _ => rfl) (Nat.le_refl _), k + 1, rfl, by omega, by omega⟩, by omega⟩
end Go.Proofs.YticocojomlfhgaaGreatDoor
